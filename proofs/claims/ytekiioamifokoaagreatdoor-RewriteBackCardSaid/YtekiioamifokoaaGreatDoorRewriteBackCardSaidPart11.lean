/- On the way (part 11). -/
import Derived.Test.YtekiioamifokoaaGreatDoorRewriteBackCardSaidPart10
set_option linter.all false
namespace Go.SX.Nb
open Go Go.SX Go.Proofs
variable [ErrAt]
set_option maxRecDepth 4000
abbrev pmO (L:List Tok) (i:Nat):AObj:=.cells 109 [uc L,A3 (i:Int)]
abbrev mvC (m:Mov):List AV:=[A3 m.kind,.slice true 1 (m.take.map Ac),.slice true 2 (m.give.map Cc),.slice true 6 (m.ahead.map Aa),.slice true 6 (m.back.map Aa)]
abbrev mvO (m:Mov):AObj:=.cells 80 (mvC m)
abbrev Rz:AV:=.v (.tuple #[])
theorem Ez {n:Nat} {L:List Tok} {i:Nat}:ObjLow n (pmO L i):=by
 show ∀y∈[AV.slice false 3 (L.map Ix),A3 (i:Int)],Low n y
 intro y hy
 simp only [B3,Em,or_false] at hy
 rcases hy with rfl|rfl
 ·simp [or_imp,forall_and]
 simp
/-- A contract of the parser, of sources that are right: it comes to what the model comes to. -/
structure CP (g:FuncId) (args:List AV) (H:List AObj) {α:Type} (X:PR α) (Q:α→Nat→AV→List AObj→Prop) (R:List AObj→Prop):Prop where
 run:(∃c j,X=.ok c j)→ACall Tryz.prog g args H (fun r H'=>∃c j,X=.ok c j∧Q c j r H')
theorem CP.ok {g:FuncId} {args:List AV} {H:List AObj} {α:Type} {X:PR α} {Q:α→Nat→AV→List AObj→Prop} {R:List AObj→Prop} {c:α} {j:Nat} (h:CP g args H X Q R) (hX:X=.ok c j):ACall Tryz.prog g args H (fun r H'=>Q c j r H'):=
 (h.run ⟨c,j,hX⟩).mono (fun r H' ⟨c',j',e,hq⟩=>by rw [hX] at e;injection e with e1 e2;subst e1;subst e2;exact hq)
theorem Dk {α:Type} {X:PR α} {e a:Int} (h:∃c j,X=.ok c j) (hX:X=.bad e a):False:=by
 obtain ⟨c,j,h⟩:=h
 rw [hX] at h
 cases h
def PR.isOk {α:Type}:PR α→Bool
 | .ok _ _=>true
 | .bad _ _=>false
theorem AQw {α:Type} {X:PR α} (h:X.isOk=true):∃c j,X=.ok c j:=by
 cases X with
 | ok c j=>exact ⟨c,j,rfl⟩
 | bad e a=>cases h
/-- The parser's object alone has turned. -/
def W1 (L:List Tok) (o:Nat) (Hp H':List AObj):Prop:=∃j,H'=Hp.set o (pmO L j)
theorem AMi (L:List Tok) (i o:Nat) (Hp:List AObj) (ho:Hp[o]? = some (pmO L i)) (hi:i<L.length):AFun Tryz.prog 115 [.ptr o 0] Hp (Ix (Af L i)):=by
 refine Ae [.cell 2 118] [0] Tryz.func115 Tryz.ntmps115 (fun d=>?_)
 refine AO8 ?_;refine Z35 ?_
 refine Aq (h:=Bd ho) (hr:=?_)
 refine Z35 ?_
 refine Aq (h:=Bd ho) (hr:=?_)
 refine Ik ?_
 refine A5 (h:=Ag (i) (Ix (Af L i)) (fun _=>Ng hi)) (hr:=?_)
 refine A5 ?_;exact AGi

theorem AQx (L:List Tok) (s:Str) (i o:Nat) (Hp:List AObj) (ho:Hp[o]? = some (pmO L i)) (hi:i<L.length):AFun Tryz.prog 197 [.ptr o 0,Ac s] Hp (B4 (isP L s i)):=by
 refine Ae [.tmp 4] [0,1] Tryz.func197 Tryz.ntmps197 (fun d=>?_)
 refine Z36 ?_;refine AKt ?_;refine Z9 ?_;refine A2 [1,5] ?_;refine Z23 ?_;refine Z77 ?_;refine Z86 ?_;exact AGy

/-! Where the parser of moves comes to. -/
def PR.In {α:Type} (x:PR α) (i n:Nat):Prop:=∀r j,x=.ok r j→i<j∧j<n
theorem PR.bind_ok {α β:Type} {x:PR α} {f:α→Nat→PR β} {r:β} {j:Nat} (h:x.bind f=.ok r j):∃a k,x=.ok a k∧f a k=.ok r j:=by
 cases x with
 | ok a k=>exact ⟨a,k,rfl,h⟩
 | bad e a=>cases h
theorem AJ2 {L:List Tok} {s:Str} {i:Nat} (h:isP L s i=true):(Af L i).kind≠0:=by
 unfold isP at h
 simp only [As,D7,beq_iff_eq] at h
 rcases h.1 with h|h<;>rw [h]<;>decide
theorem Hb {L:List Tok} (hl:TokEnd L) {s:Str} {i:Nat} (hi:i<L.length):(Dl L s i).In i L.length:=by
 intro r j h
 unfold Dl at h
 split at h
 ·rename_i h1
  injection h with _ h
  subst h
  exact ⟨gk i,hl.step hi (AJ2 h1)⟩
 cases h
theorem Jn {L:List Tok} (hl:TokEnd L) {i:Nat} (hi:i<L.length):(I9 L i).In i L.length:=by
 intro r j h
 unfold I9 at h
 split at h
 ·cases h
 rename_i h1
 injection h with _ h
 subst h
 have hk:(Af L i).kind=1:=by simpa using h1
 exact AP9
theorem AJ3 {L:List Tok} (hl:TokEnd L) {nm:Str} {i:Nat} (hi:i<L.length):(w4 L nm i).In i L.length:=by
 intro r j h
 unfold w4 at h
 split at h
 ·cases h
 rename_i h1
 injection h with _ h
 subst h
 have hk:(Af L i).kind=2:=by simp only [S3,Ei,bne_eq_false_iff_eq] at h1;exact h1.1
 exact AP9
theorem fg {L:List Tok} (hl:TokEnd L) {i:Nat} (hi:i<L.length):(Lr L i).In i L.length:=by
 intro r j h
 obtain ⟨a,k,h1,h2⟩:=PR.bind_ok h
 obtain ⟨a1,a2⟩:=Jn hl hi _ _ h1
 obtain ⟨b1,b2⟩:=AJ3 hl a2 _ _ h2
 exact ⟨by omega,b2⟩
theorem Ui {L:List Tok} (hl:TokEnd L) (hll:L.length≤500000) {i:Nat} (hi:i<L.length) {x:Expr} {k:Nat} (h:Pc L i=.ok x k):i≤k∧k<L.length:=by
 unfold Pc at h
 split at h
 ·cases h
 rename_i h0
 injection h with _ h
 subst h
 have h0:(atM L i).2.2.1=0:=by simpa using h0
 have hq:=Zk hl (by omega:L.length≤1048576) hi
 unfold atM at h0 ⊢
 split at h0
 ·rename_i h1
  have:(atS L i (atR L i)).code=0:=h0
  rw [this] at h1
  cases h1
 rename_i h1
 rw [if_neg h1]
 have e:(atS L i (atR L i)).i=(atR L i).2.i:=by
  unfold atS
  repeat' split
  all_goals first|rfl|exact failM_i.1
 show i≤((atS L i (atR L i)).i:Int).toNat∧((atS L i (atR L i)).i:Int).toNat<_
 rw [Int.toNat_natCast,e]
 exact ⟨hq.le,hq.lt⟩
/-- A move has no more parts than so many. -/
structure MvLe (m:Mov) (n:Nat):Prop where
 take:m.take.length≤n
 give:m.give.length≤n
 ahead:m.ahead.length≤n
 back:m.back.length≤n
theorem MvLe.mono {m:Mov} {i j:Nat} (h:MvLe m i) (hij:i≤j):MvLe m j:=⟨Ic h.take hij,Ic h.give hij,Ic h.ahead hij,Ic h.back hij⟩
/-- What a part of a move comes to. -/
def AMj (x:PR Mov) (i n:Nat):Prop:=∀m j,x=.ok m j→i≤j∧j<n∧MvLe m (2*j)
/-- A part of a move that goes on from i. -/
def cn (L:List Tok) (one:Mov→Nat→PR Mov):Prop:=∀m i,MvLe m (2*i-1)→0<i→i<L.length→AMj (one m i) i L.length
theorem N1 {L:List Tok} (hl:TokEnd L) (hll:L.length≤500000):cn L (Fx L):=by
 intro m i hm _ hi m' k h
 obtain ⟨c,j,h1,h2⟩:=PR.bind_ok h
 obtain ⟨u,j2,h3,h4⟩:=PR.bind_ok h2
 obtain ⟨x,j3,h5,h6⟩:=PR.bind_ok h4
 injection h6 with h6 h7
 subst h6;subst h7
 have a1:=fg hl hi _ _ h1
 have a2:=Hb hl a1.2 _ _ h3
 have a3:=Ui hl hll a2.2 h5
 obtain ⟨b1,b2,b3,b4⟩:=hm
 exact ⟨by omega,a3.2,by show m.take.length≤_;omega,by show (m.give++[c]).length≤_;rw [Ai,Kc];omega,by show (m.ahead++[x]).length≤_;rw [Ai,Kc];omega,by show m.back.length≤_;omega⟩
theorem nx {L:List Tok} (hl:TokEnd L) (hll:L.length≤500000):cn L (Wu L):=by
 intro m i hm h0 hi m' k h
 obtain ⟨x,j,h1,h2⟩:=PR.bind_ok h
 injection h2 with h6 h7
 subst h6;subst h7
 have a3:=Ui hl hll hi h1
 obtain ⟨b1,b2,b3,b4⟩:=hm
 exact ⟨by omega,a3.2,by show m.take.length≤_;omega,by show m.give.length≤_;omega,by show m.ahead.length≤_;omega,by show (m.back++[x]).length≤_;rw [Ai,Kc];omega⟩
theorem av {L:List Tok} (hl:TokEnd L):cn L (Uh L):=by
 intro m i hm _ hi m' k h
 obtain ⟨s,j,h1,h2⟩:=PR.bind_ok h
 injection h2 with h6 h7
 subst h6;subst h7
 have a1:=Jn hl hi _ _ h1
 obtain ⟨b1,b2,b3,b4⟩:=hm
 exact ⟨by omega,a1.2,by show (m.take++[s]).length≤_;rw [Ai,Kc];omega,by show m.give.length≤_;omega,by show m.ahead.length≤_;omega,by show m.back.length≤_;omega⟩
theorem P5 {L:List Tok} {s:Str} {i:Nat} {u:Unit} {j:Nat} (h:Dl L s i=.ok u j):j=i+1:=by
 unfold Dl at h
 split at h
 ·injection h with _ h;exact h.symm
 cases h
theorem ny {L:List Tok} (hl:TokEnd L) {n:Int} {one:Mov→Nat→PR Mov} (hP:cn L one):∀(f k:Nat) (m:Mov) (i:Nat),MvLe m (2*i)→0<i→i<L.length→AMj (Uf L n one f k m i) i L.length
 | 0,k,m,i,hm,h0,hi=>fun m' j h=>by
  injection h with h1 h2
  subst h1;subst h2
  exact ⟨Al _,hi,hm⟩
 | f+1,k,m,i,hm,h0,hi=>fun m' j h=>by
  rw [Uf] at h
  split at h
  ·obtain ⟨u,j1,h1,h2⟩:=PR.bind_ok h
   obtain ⟨m1,j2,h3,h4⟩:=PR.bind_ok h2
   have e:=P5 h1
   have a1:=Hb hl hi _ _ h1
   obtain ⟨b1,b2,b3⟩:=hP m j1 (hm.mono (by omega)) (by omega) a1.2 _ _ h3
   obtain ⟨c1,c2,c3⟩:=ny hl hP f (k+1) m1 j2 b3 (by omega) b2 _ _ h4
   exact qf
  injection h with h1 h2
  subst h1;subst h2
  exact ⟨Al _,hi,hm⟩
theorem Uj {L:List Tok} (hl:TokEnd L) {n:Int} {one:Mov→Nat→PR Mov} (hP:cn L one):cn L (Jl L n one):=by
 intro m i hm h0 hi m' k h
 obtain ⟨m1,j,h1,h2⟩:=PR.bind_ok h
 obtain ⟨b1,b2,b3⟩:=hP m i hm h0 hi _ _ h1
 obtain ⟨c1,c2,c3⟩:=ny hl hP _ _ m1 j b3 (by omega) b2 _ _ h2
 exact qf
theorem Xi {L:List Tok} (hl:TokEnd L) (hll:L.length≤500000) {m:Mov} {i:Nat} (hm:MvLe m (2*i)) (hi:i<L.length):AMj (Gy L m i) i L.length:=by
 intro m' k h
 obtain ⟨u,j,h1,h2⟩:=PR.bind_ok h
 have e:=P5 h1
 have a1:=Hb hl hi _ _ h1
 obtain ⟨c1,c2,c3⟩:=Uj hl (nx hl hll) m j (hm.mono (by omega)) (by omega) a1.2 _ _ h2
 exact qf
theorem AA8 {L:List Tok} (hl:TokEnd L):cn L (Ls L):=by
 intro m i hm h0 hi m' k h
 obtain ⟨s,j,h1,h2⟩:=PR.bind_ok h
 obtain ⟨u,j2,h3,h4⟩:=PR.bind_ok h2
 obtain ⟨t,j3,h5,h6⟩:=PR.bind_ok h4
 injection h6 with h6 h7
 subst h6;subst h7
 have a1:=Jn hl hi _ _ h1
 have a2:=Hb hl a1.2 _ _ h3
 have a3:=Jn hl a2.2 _ _ h5
 exact ⟨by omega,a3.2,by show 1≤_;omega,by show 1≤_;omega,by show 1≤_;omega,by show 1≤_;omega⟩
theorem MvLe.takeS {m:Mov} {n:Nat} (h:MvLe m n) {s:Str} (h1:1≤n):MvLe (takeS m s) n:=⟨h1,h.give,h.ahead,h.back⟩
theorem w8 {L:List Tok} (hl:TokEnd L) (hll:L.length≤500000):cn L (Jm L):=by
 intro m i hm h0 hi m' k h
 unfold Jm at h
 split at h
 ·exact N1 hl hll m i hm h0 hi _ _ h
 split at h
 ·obtain ⟨s,j,h1,h2⟩:=PR.bind_ok h
  have a1:=Jn hl hi _ _ h1
  obtain ⟨c1,c2,c3⟩:=Xi hl hll ((hm.mono (by omega:2*i-1≤2*j)).takeS (by omega)) a1.2 _ _ h2
  exact qf
 split at h
 ·exact AA8 hl m i hm h0 hi _ _ h
 split at h
 ·obtain ⟨s,j,h1,h2⟩:=PR.bind_ok h
  obtain ⟨u,j2,h3,h4⟩:=PR.bind_ok h2
  obtain ⟨m1,j3,h5,h6⟩:=PR.bind_ok h4
  have a1:=Jn hl hi _ _ h1
  have a2:=Hb hl a1.2 _ _ h3
  obtain ⟨b1,b2,b3⟩:=Uj hl (N1 hl hll) (takeS m s) j2 ((hm.mono (by omega:2*i-1≤2*j2-1)).takeS (by omega)) (by omega) a2.2 _ _ h5
  obtain ⟨c1,c2,c3⟩:=Xi hl hll b3 b2 _ _ h6
  exact qf
 split at h
 ·obtain ⟨m1,j,h1,h2⟩:=PR.bind_ok h
  obtain ⟨u,j2,h3,h4⟩:=PR.bind_ok h2
  obtain ⟨m2,j3,h5,h6⟩:=PR.bind_ok h4
  obtain ⟨b1,b2,b3⟩:=Uj hl (av hl) m i hm h0 hi _ _ h1
  have e:=P5 h3
  have a2:=Hb hl b2 _ _ h3
  obtain ⟨d1,d2,d3⟩:=N1 hl hll m1 j2 (b3.mono (by omega)) (by omega) a2.2 _ _ h5
  obtain ⟨c1,c2,c3⟩:=Xi hl hll d3 d2 _ _ h6
  exact qf
 split at h
 ·obtain ⟨m1,j,h1,h2⟩:=PR.bind_ok h
  obtain ⟨d1,d2,d3⟩:=N1 hl hll m i hm h0 hi _ _ h1
  obtain ⟨c1,c2,c3⟩:=Xi hl hll (d3.takeS (by omega)) d2 _ _ h2
  exact qf
 injection h with h1 h2
 subst h1;subst h2
 exact ⟨Al _,hi,hm.mono (by omega)⟩
def aw:=@PR.bind_ok
theorem so (L:List Tok) (s:Str) (i o:Nat) (Hp:List AObj) (ho:Hp[o]? = some (pmO L i)) (hi:i<L.length) (hll:L.length≤500000):CP 153 [.ptr o 0,Ac s] Hp (Dl L s i) (fun _ j r H'=>r=Rz∧H'=Hp.set o (pmO L j)) (W1 L o Hp):=by
 refine ⟨fun hX=>?_⟩
 refine Ae [] [0,1] Tryz.func153 Tryz.ntmps153 (fun d=>?_)
 refine Z7 ?_;refine A7 Tryz.call197 (AQx L s i o _ (Aj ho) hi) ?_;refine A5 ?_;refine A2 [0,7] ?_
 refine A4 (fun ht7=>?_) (fun ht7=>?_)
 ·have hq:isP L s i=false:=by simpa using ht7
  have e:Dl L s i=.bad 8 (Af L i).at_:=if_neg (by rw [hq];simp)
  exact ACn
 have hq:isP L s i=true:=by simpa using ht7
 have e:Dl L s i=.ok () (i+1):=if_pos hq
 refine Z3 ?_;refine Z49 ?_
 refine A5 (h:=Bd ho) (hr:=?_)
 refine Z12 ?_
 refine Cx jS ho ?_ ?_
 ·simp
 refine Mk ?_;exact F4 .nores (hp:=⟨(),i+1,e,rfl,rfl⟩)

theorem AA9 (L:List Tok) (i o:Nat) (Hp:List AObj) (ho:Hp[o]? = some (pmO L i)) (hi:i<L.length) (hll:L.length≤500000):CP 191 [.ptr o 0] Hp (I9 L i) (fun s j r H'=>r=Ac s∧H'=Hp.set o (pmO L j)) (W1 L o Hp):=by
 refine ⟨fun hX=>?_⟩
 refine Ae [.tmp 2] [0] Tryz.func191 Tryz.ntmps191 (fun d=>?_)
 refine Z42 ?_;refine AKt ?_;refine Z9 ?_;refine No ?_;refine Z29 ?_;refine A2 [0,3,8] ?_
 refine A4 (fun ht8=>?_) (fun ht8=>?_)
 ·have e:I9 L i=.bad 8 (Af L i).at_:=if_pos ht8
  exact ACn
 have e:I9 L i=.ok (Af L i).text (i+1):=if_neg (by rw [ht8];simp)
 refine Q4 ?_
 refine A5 (h:=Bd ho) (hr:=?_)
 refine Z12 ?_
 refine Cx jS ho ?_ ?_
 ·simp
 refine A2 [3] ?_;refine Z15 ?_;refine Z4 ?_;exact A9 (Ao A8) (hp:=⟨_,i+1,e,rfl,rfl⟩)

theorem getset {Hp:List AObj} {o:Nat} {A B:AObj} (h:Hp[o]? = some A):(Hp.set o B)[o]? = some B:=by
 have:=(Ad.1 h).1
 simp [this]
theorem AUb (L:List Tok) (i o:Nat) (Hp:List AObj) (ho:Hp[o]? = some (pmO L i)) (hi:i<L.length) (hl:TokEnd L) (hll:L.length≤500000):CP 229 [.ptr o 0] Hp (Lr L i) (fun c j r H'=>r=Cc c∧H'=Hp.set o (pmO L j)) (W1 L o Hp):=by
 refine ⟨fun hX=>?_⟩
 refine Ae [.cell 2 69] [0] Tryz.func229 Tryz.ntmps229 (fun d=>?_)
 refine Z64 ?_
 rcases hN:I9 L i with ⟨s,j⟩|⟨e,a⟩
 rotate_left
 ·exact (Dk hX (by first|exact by unfold Lr;rw [hN];rfl|exact hN)).elim
 have hj:j<L.length:=(Jn hl hi _ _ hN).2
 have e0:Lr L i=w4 L s j:=by unfold Lr;rw [hN];rfl
 refine Z2 ?_;refine Cr (x:=pmO L j) Tryz.call191 ho (by simp) Ez ((AA9 L i o _ (Aj ho) hi hll).ok hN) ?_;refine lb ?_;refine ky ?_;refine Z2 ?_;refine A7 Tryz.call115 (AMi L j o _ (Aj (getset ho)) hj) ?_;refine Z9 ?_;refine A2 [0,2,3,4] ?_;refine Z7 ?_;refine A7 Tryz.call254 (AS8 (Af L j).text _) ?_;refine A5 ?_;refine Hh ?_;refine A2 [0,2,3,4] ?_;refine Z23 ?_;refine Z6 ?_;refine Z55 ?_;refine A2 [0,2,3,21] ?_
 refine A4 (fun ht21=>?_) (fun ht21=>?_)
 ·have e:Lr L i=.bad 8 (Af L j).at_:=by rw [e0];exact if_pos ht21
  exact ACn
 have e:Lr L i=.ok ⟨s,Wi (Af L j).text⟩ (j+1):=by rw [e0];exact if_neg (by rw [ht21];simp)
 refine Q4 ?_
 refine A5 (h:=Bd (getset ho)) (hr:=?_)
 refine Z12 ?_
 refine Cx jS (getset ho) ?_ ?_
 ·simp
 refine Jz ?_;refine Z2 ?_;refine Z40 ?_;exact A9 (Ao (B6 jA jS)) (hp:=⟨_,j+1,e,rfl,by rw [C6];rfl⟩)

theorem AQy (L:List Tok) (i o:Nat) (Hp:List AObj) (ho:Hp[o]? = some (pmO L i)) (hi:i<L.length) (hl:TokEnd L) (hll:L.length≤500000):CP 230 [.ptr o 0] Hp (Pc L i) (fun c j r H'=>r=Aa c∧H'=Hp.set o (pmO L j)) (W1 L o Hp):=by
 refine ⟨fun hX=>?_⟩
 refine Ae [.cell 2 27] [0] Tryz.func230 Tryz.ntmps230 (fun d=>?_)
 refine Z64 ?_;refine Fd [0,1,3,7,0,16,48,112,255,511,1023,1023,1023,0,0,26623,61439,131071] [] [.q 13 [] [],.s [3] none [] [],.s [5] none [] [],.s [3] none [] [],.q 1 [] [],.s [5] none [] []] (fun _=>Hp) (fun _=>[.cells 27 [A3 0,Ac [],A3 0,A3 0,Ac [],.nil]]) An (by kernel_rfl) rfl rfl (fun _=>rfl) ?_
 apply Y.q
 ·intro B hT hF
  refine Z35 ?_
  refine Aq (h:=Bd ho) (hr:=?_)
  refine Z35 ?_
  refine Aq (h:=Bd ho) (hr:=?_)
  refine Du Tryz.call120 (APt L i hi hl hll (fun n Dv h1 h2=>dz hl (by omega) n Dv h1 h2) _) ?_;exact l4
 case hTF=>decide
 refine Y.allocP Tryz.zeroValue27 ?_;refine Y.allocP Tryz.zeroValue73 ?_;refine Y.storeP Tryz.sizeOf27 ?_
 apply Y.q
 ·intro B hT hF
  exact Z56
 case hTF=>decide
 refine Y.storeP Tryz.sizeOf73 ?_;refine Ej (tn:=[])  ?_;refine A2 [0,2,3,4,5] ?_;refine Z29 ?_;refine A2 [0,2,3,4,5,21] ?_
 refine A4 (fun ht21=>?_) (fun ht21=>?_)
 ·have e:Pc L i=.bad (atM L i).2.2.1 (atM L i).2.2.2:=if_pos ht21
  exact ACn
 obtain ⟨k,hk,hkl⟩:=jh hl (by omega) hi (by simpa using ht21)
 have e:Pc L i=.ok (atM L i).1 k:=(if_neg (by rw [ht21];simp)).trans (by rw [hk];rfl)
 rw [hk]
 refine Y6 ?_
 refine Cx jS ho ?_ ?_
 ·simp
 refine Jz ?_;refine Z2 ?_;refine Z40 ?_;exact A9 (Ao (B6 jA jS)) (hp:=⟨_,k,e,(Ap _).symm,rfl⟩) (hlow:=by have:=Ak Hp.length (atM L i).1;rw [Ap] at this;exact this)

/-- The parser's object and the move's, turned. -/
def U2 (L:List Tok) (Hp:List AObj) (o om i:Nat) (x:AObj):List AObj:=(Hp.set o (pmO L i)).set om x
theorem U2_len {L:List Tok} {Hp:List AObj} {o om i:Nat} {x:AObj}:(U2 L Hp o om i x).length=Hp.length:=by simp [U2]
theorem Gd {L:List Tok} {Hp:List AObj} {o om i:Nat} {x z:AObj} (hm:Hp[om]? = some z):(U2 L Hp o om i x)[om]? = some x:=gB hm
theorem Fa {L:List Tok} {Hp:List AObj} {o om i:Nat} {x z:AObj} (ho:Hp[o]? = some z) (hne:om≠o):(U2 L Hp o om i x)[o]? = some (pmO L i):=gA ho hne
theorem G7 {L:List Tok} {Hp:List AObj} {o om i j:Nat} {x:AObj} (hne:om≠o):(U2 L Hp o om i x).set o (pmO L j)=U2 L Hp o om j x:=AE3 hne
theorem U2_setm {L:List Tok} {Hp:List AObj} {o om i:Nat} {x y:AObj}:(U2 L Hp o om i x).set om y=U2 L Hp o om i y:=C6 ..
theorem Uk {L:List Tok} {Hp:List AObj} {o om i:Nat} {x:AObj} (ho:Hp[o]? = some (pmO L i)) (hm:Hp[om]? = some x):U2 L Hp o om i x=Hp:=by unfold U2;rw [Cm ho,Cm hm]
theorem I2 {L:List Tok} {Hp:List AObj} {o om i q:Nat} {x:AObj} (h1:q≠o) (h2:q≠om):(U2 L Hp o om i x)[q]? = Hp[q]? := by unfold U2;rw [Bk (Ne.symm h2),Bk (Ne.symm h1)]
def W2 (L:List Tok) (o om:Nat) (Hp H':List AObj):Prop:=∃j m,H'=U2 L Hp o om j (mvO m)
theorem Sy {n k:Nat} {o:Bool} {l:List Expr} {x:Expr}:Low n (.slice o k (l.map Aa++[.agg (Ex x)])):=by
 rw [show AV.agg (Ex x)=Aa x from (Ap x).symm];exact Mg
theorem Hc {n:Nat} {m:Mov}:ObjLow n (mvO m):=by
 show ∀y∈mvC m,Low n y
 intro y hy
 simp only [mvC,B3,Em,or_false] at hy
 rcases hy with rfl|rfl|rfl|rfl|rfl
 all_goals first|exact Dj|simp [or_imp,forall_and]
theorem AAa {L:List Tok} {Hp:List AObj} {o om i:Nat} {m:Mov} {c:Col} {x:AObj}:(U2 L Hp o om i x).set om (.cells 80 [A3 m.kind,.slice true 1 (m.take.map Ac),.slice true 2 (m.give.map Cc++[Cc c]),.slice true 6 (m.ahead.map Aa),.slice true 6 (m.back.map Aa)])=U2 L Hp o om i (mvO (Ep m c)):=by
 rw [U2_setm];simp only [mvO,mvC,Ep,Bj,Bm,Dc]
theorem AAb {L:List Tok} {Hp:List AObj} {o om i:Nat} {m:Mov} {e:Expr} {x:AObj}:(U2 L Hp o om i x).set om (.cells 80 [A3 m.kind,.slice true 1 (m.take.map Ac),.slice true 2 (m.give.map Cc),.slice true 6 (m.ahead.map Aa++[.agg (Ex e)]),.slice true 6 (m.back.map Aa)])=U2 L Hp o om i (mvO (w5 m e)):=by
 rw [U2_setm,show AV.agg (Ex e)=Aa e from (Ap e).symm];simp only [mvO,mvC,w5,Bj,Bm,Dc]
theorem AAc {L:List Tok} {Hp:List AObj} {o om i:Nat} {m:Mov} {e:Expr} {x:AObj}:(U2 L Hp o om i x).set om (.cells 80 [A3 m.kind,.slice true 1 (m.take.map Ac),.slice true 2 (m.give.map Cc),.slice true 6 (m.ahead.map Aa),.slice true 6 (m.back.map Aa++[.agg (Ex e)])])=U2 L Hp o om i (mvO (w6 m e)):=by
 rw [U2_setm,show AV.agg (Ex e)=Aa e from (Ap e).symm];simp only [mvO,mvC,w6,Bj,Bm,Dc]
theorem AAd {L:List Tok} {Hp:List AObj} {o om i:Nat} {m:Mov} {s:Str} {x:AObj}:(U2 L Hp o om i x).set om (.cells 80 [A3 m.kind,.slice true 1 (m.take.map Ac++[Ac s]),.slice true 2 (m.give.map Cc),.slice true 6 (m.ahead.map Aa),.slice true 6 (m.back.map Aa)])=U2 L Hp o om i (mvO (w7 m s)):=by
 rw [U2_setm];simp only [mvO,mvC,w7,Bj,Bm,Dc]

theorem AJ4 (L:List Tok) (m:Mov) (i o om:Nat) (Hp:List AObj) (hne:om≠o) (ho:Hp[o]? = some (pmO L i)) (hm:Hp[om]? = some (mvO m)) (hi:i<L.length) (hl:TokEnd L) (hll:L.length≤500000) (hb:MvLe m (2*i-1)):CP 190 [.ptr o 0,.ptr om 0] Hp (Fx L m i) (fun m' j r H'=>r=Rz∧H'=U2 L Hp o om j (mvO m')) (W2 L o om Hp):=by
 refine ⟨fun hX=>?_⟩
 have:=hb.take;have:=hb.give;have:=hb.ahead;have:=hb.back
 refine Ae [] [0,1] Tryz.func190 Tryz.ntmps190 (fun d=>?_)
 rcases hC:Lr L i with ⟨c,j⟩|⟨e,a⟩
 rotate_left
 ·exact (Dk hX (by first|exact by unfold Fx;rw [hC];rfl|exact hC)).elim
 have hj:=fg hl hi _ _ hC
 refine Fd [0,0,2,6,14,0,32,96,254,511,1023,2047] [4,6] [.q 4 [] [],.s [8] (some 0) [] [],.q 1 [] [1],.s [10] (some 1) [] [],.q 1 [1] [],.s [8,12] none [0,1] []] (fun B=>U2 L Hp o om (if B 1=true then j else i) (if B 0=true then .cells 80 [A3 m.kind,.slice true 1 (m.take.map Ac),.slice false 2 (m.give.map Cc),.slice true 6 (m.ahead.map Aa),.slice true 6 (m.back.map Aa)] else .cells 80 [A3 m.kind,.slice true 1 (m.take.map Ac),.slice true 2 (m.give.map Cc),.slice true 6 (m.ahead.map Aa),.slice true 6 (m.back.map Aa)])) (fun _=>[]) An (by kernel_rfl) (Uk ho hm) rfl (fun B=>U2_len) ?_
 apply Y.q
 ·intro B hT hF
  exact l4
 case hTF=>decide
 refine Pz (o:=om) (t':=80) (cs:=[A3 m.kind,.slice true 1 (m.take.map Ac),.slice true 2 (m.give.map Cc),.slice true 6 (m.ahead.map Aa),.slice true 6 (m.back.map Aa)]) (cs':=[A3 m.kind,.slice true 1 (m.take.map Ac),.slice false 2 (m.give.map Cc),.slice true 6 (m.ahead.map Aa),.slice true 6 (m.back.map Aa)]) Tryz.isAgg30 (fun B hB=>⟨by simp only [hB];exact Gd hm,U2_setm.symm,rfl⟩) ?_
 apply Y.q
 ·intro B hT hF
  exact Z56
 case hTF=>decide
 refine Og (r:=Cc c) (o:=o) (x0:=pmO L i) (x:=pmO L j) Tryz.call229 (fun B hB1 hB2 hB=>⟨by simp only [hB];exact Fa ho hne,(G7 hne).symm,rfl,Ez,?_⟩) ?_
 ·simp only [hB]
  exact (AUb L i o _ (Aj (Fa ho hne)) hi hl hll).ok hC
 apply Y.q
 ·intro B hT hF
  exact Z39
 case hTF=>decide
 refine Y.append jU Tryz.type69 ?_ ?_ ?_
 ·simp [Tryz.t69];omega
 ·simp [Tryz.t69];omega
 refine Ej (tn:=[4,6]) (U:=U2 L Hp o om j (.cells 80 [A3 m.kind,.slice true 1 (m.take.map Ac),.slice false 2 (m.give.map Cc),.slice true 6 (m.ahead.map Aa),.slice true 6 (m.back.map Aa)])) ?_;refine Z0 ?_
 refine Gm jS (Gd hm) ?_ ?_
 ·simp [or_imp,forall_and]
 refine A2 [0,1] ?_;refine Sx (AAa (m:=m) (c:=c)) ?_
 rcases hW:Dl L [61] j with ⟨u,j2⟩|⟨e,a⟩
 rotate_left
 ·exact (Dk hX (by first|exact by unfold Fx;rw [hC];show (Dl L [61] j).bind _=_;rw [hW];rfl|exact hW)).elim
 have hj2:=Hb hl hj.2 _ _ hW
 refine Z2 ?_;refine Cr (x:=pmO L j2) Tryz.call153 (Fa ho hne) (by simp) Ez ((so L [61] j o _ (Aj (Fa ho hne)) hj.2 hll).ok hW) ?_
 rw [G7 hne]
 refine A2 [0,1] ?_
 rcases hT:Pc L j2 with ⟨x,k⟩|⟨e,a⟩
 rotate_left
 ·exact (Dk hX (by first|exact by unfold Fx;rw [hC];show (Dl L [61] j).bind _=_;rw [hW];show (Pc L j2).bind _=_;rw [hT];rfl|exact hT)).elim
 have hk:=Ui hl hll hj2.2 hT
 refine W.drawT0 [0,1,3,7,0,16,15,0,255,511,1023,511,2559,6655] [3,5] [.q 3 [] [0],.s [20] (some 0) [] [],.q 1 [] [1],.s [22] (some 1) [] [],.q 2 [] []] (fun B=>U2 L Hp o om (if B 1=true then k else j2) (if B 0=true then .cells 80 [A3 (Ep m c).kind,.slice true 1 ((Ep m c).take.map Ac),.slice true 2 ((Ep m c).give.map Cc),.slice false 6 ((Ep m c).ahead.map Aa),.slice true 6 ((Ep m c).back.map Aa)] else .cells 80 [A3 (Ep m c).kind,.slice true 1 ((Ep m c).take.map Ac),.slice true 2 ((Ep m c).give.map Cc),.slice true 6 ((Ep m c).ahead.map Aa),.slice true 6 ((Ep m c).back.map Aa)])) (fun _=>[]) An (by kernel_rfl) rfl rfl (fun B=>by rw [U2_len];exact U2_len.symm) ?_
 apply Y.q
 ·intro B hT hF
  exact AGj
 case hTF=>decide
 refine Pz (o:=om) (t':=80) (cs:=[A3 (Ep m c).kind,.slice true 1 ((Ep m c).take.map Ac),.slice true 2 ((Ep m c).give.map Cc),.slice true 6 ((Ep m c).ahead.map Aa),.slice true 6 ((Ep m c).back.map Aa)]) (cs':=[A3 (Ep m c).kind,.slice true 1 ((Ep m c).take.map Ac),.slice true 2 ((Ep m c).give.map Cc),.slice false 6 ((Ep m c).ahead.map Aa),.slice true 6 ((Ep m c).back.map Aa)]) Tryz.isAgg25 (fun B hB=>⟨by simp only [hB];exact Gd hm,U2_setm.symm,rfl⟩) ?_
 apply Y.q
 ·intro B hT hF
  exact Z56
 case hTF=>decide
 refine Og (r:=Aa x) (o:=o) (x0:=pmO L j2) (x:=pmO L k) Tryz.call230 (fun B hB1 hB2 hB=>⟨by simp only [hB];exact Fa ho hne,(G7 hne).symm,rfl,Ez,?_⟩) ?_
 ·simp only [hB]
  exact (AQy L j2 o _ (Aj (Fa ho hne)) hj2.2 hl hll).ok hT
 apply Y.q
 ·intro B hT hF
  exact pv
 case hTF=>decide
 refine Y.appendPut4 (tn:=[3,5]) (U:=U2 L Hp o om k (.cells 80 [A3 (Ep m c).kind,.slice true 1 ((Ep m c).take.map Ac),.slice true 2 ((Ep m c).give.map Cc),.slice false 6 ((Ep m c).ahead.map Aa),.slice true 6 ((Ep m c).back.map Aa)])) (O:=[]) (o:=om) (t':=80) (cs:=[A3 (Ep m c).kind,.slice true 1 ((Ep m c).take.map Ac),.slice true 2 ((Ep m c).give.map Cc),.slice false 6 ((Ep m c).ahead.map Aa),.slice true 6 ((Ep m c).back.map Aa)]) (by kernel_rfl) jU Tryz.type27 Tryz.sizeOf27 Tryz.sizeOf25 jU (Aj (Gd hm)) ?_ ?_ ?_ (hfsz:=Tryz.sizeOf25)
 ·simp [Tryz.t27,Ep];omega
 ·simp [Tryz.t27,Ep];omega
 refine Z0 ?_
 refine Gm jS (Gd hm) ?_ ?_
 ·exact Sy
 refine Mk ?_;exact F4 .nores (hp:=⟨w5 (Ep m c) x,k,by unfold Fx;rw [hC];show (Dl L [61] j).bind _=_;rw [hW];show (Pc L j2).bind _=_;rw [hT];rfl,rfl,by exact AAb (m:=Ep m c)⟩)

/-- What is asked of a part of a move that is a closure. -/
def w9 (L:List Tok) (o om g:Nat) (caps:List AV) (Hp:List AObj) (one:Mov→Nat→PR Mov):Prop:=
 ∀m i,MvLe m (2*i-1)→0<i→i<L.length→CP g caps (U2 L Hp o om i (mvO m)) (one m i) (fun m' j r H'=>r=Rz∧H'=U2 L Hp o om j (mvO m')) (W2 L o om Hp)
theorem Lg {L:List Tok} {Hp:List AObj} {o om i j:Nat} {x y:AObj} (hne:om≠o):U2 L (U2 L Hp o om i x) o om j y=U2 L Hp o om j y:=by
 unfold U2
 rw [AE3 hne,C6]
theorem AFk {L:List Tok} {Hp H':List AObj} {o om i:Nat} {x:AObj} (hne:om≠o) (h:W2 L o om (U2 L Hp o om i x) H'):W2 L o om Hp H':=by
 obtain ⟨j,m,e⟩:=h
 exact ⟨j,m,by rw [e,Lg hne]⟩
theorem AUc (L:List Tok) (m:Mov) (i o om bp bm:Nat) (Hp:List AObj) (hne:om≠o) (ho:Hp[o]? = some (pmO L i)) (hm:Hp[om]? = some (mvO m)) (hbp:Hp[bp]? = some (.cells 107 [.ptr o 0])) (hbm:Hp[bm]? = some (.cells 194 [.ptr om 0])) (hi:i<L.length) (hl:TokEnd L) (hll:L.length≤500000) (hb:MvLe m (2*i-1)):CP 231 [.ptr bm 0,.ptr bp 0] Hp (Wu L m i) (fun m' j r H'=>r=Rz∧H'=U2 L Hp o om j (mvO m')) (W2 L o om Hp):=by
 refine ⟨fun hX=>?_⟩
 have n1:bp≠o:=fun e=>by rw [e,ho] at hbp;simp at hbp
 have n2:bp≠om:=fun e=>by rw [e,hm] at hbp;simp at hbp
 have n3:bm≠o:=fun e=>by rw [e,ho] at hbm;simp at hbm
 have n4:bm≠om:=fun e=>by rw [e,hm] at hbm;simp at hbm
 have:=hb.take;have:=hb.give;have:=hb.ahead;have:=hb.back
 refine Ae [] [0,1] Tryz.func231 Tryz.ntmps231 (fun d=>?_)
 refine W.flip An (by kernel_rfl) Tryz.zeroValue4 Tryz.sizeOf4 Tryz.isAgg4 (fun fb=>?_)
 refine cv [0,1,3] (by simp only [go_sem,↓reduceIte,Nat.reduceEqDiff,Nat.reduceAdd]<;>rfl) ?_
 refine A4 (fun ht3=>?_) (fun ht3=>?_)
 ·rcases hT:Pc L i with ⟨x,k⟩|⟨e,a⟩
  rotate_left
  ·exact APa
  have hk:=Ui hl hll hi hT
  refine W.drawZ0 [0,1,3,7,0,16,15,0,255,511,1023,2047] [3,5] [.q 3 [] [0],.s [7] (some 0) [] [],.q 1 [] [1],.s [9] (some 1) [] [],.q 2 [] []] (fun B=>U2 L Hp o om (if B 1=true then k else i) (if B 0=true then .cells 80 [A3 m.kind,.slice true 1 (m.take.map Ac),.slice true 2 (m.give.map Cc),.slice true 6 (m.ahead.map Aa),.slice false 6 (m.back.map Aa)] else .cells 80 [A3 m.kind,.slice true 1 (m.take.map Ac),.slice true 2 (m.give.map Cc),.slice true 6 (m.ahead.map Aa),.slice true 6 (m.back.map Aa)])) (fun _=>[.cells 4 [.v (.bool fb)]]) An (by kernel_rfl) (Uk ho hm) rfl (fun B=>U2_len) ?_
  apply Y.q
  ·intro B hT hF
   refine Aq (h:=Bd ((I2 n3 n4).trans hbm)) (hr:=?_)
   exact Z72
  case hTF=>decide
  refine Pz (o:=om) (t':=80) (cs:=[A3 m.kind,.slice true 1 (m.take.map Ac),.slice true 2 (m.give.map Cc),.slice true 6 (m.ahead.map Aa),.slice true 6 (m.back.map Aa)]) (cs':=[A3 m.kind,.slice true 1 (m.take.map Ac),.slice true 2 (m.give.map Cc),.slice true 6 (m.ahead.map Aa),.slice false 6 (m.back.map Aa)]) Tryz.isAgg25 (fun B hB=>⟨by simp only [hB];exact Gd hm,U2_setm.symm,rfl⟩) ?_
  apply Y.q
  ·intro B hT hF
   refine Aq (h:=Bd ((I2 n1 n2).trans hbp)) (hr:=?_)
   exact ix
  case hTF=>decide
  refine Og (r:=Aa x) (o:=o) (x0:=pmO L i) (x:=pmO L k) Tryz.call230 (fun B hB1 hB2 hB=>⟨by simp only [hB];exact Fa ho hne,(G7 hne).symm,rfl,Ez,?_⟩) ?_
  ·simp only [hB]
   exact APb
  apply Y.q
  ·intro B hT hF
   exact pv
  case hTF=>decide
  refine Y.put2 (tn:=[3,5]) (U:=U2 L Hp o om k (.cells 80 [A3 m.kind,.slice true 1 (m.take.map Ac),.slice true 2 (m.give.map Cc),.slice true 6 (m.ahead.map Aa),.slice false 6 (m.back.map Aa)])) (O:=[.cells 4 [.v (.bool fb)]]) (o:=om) (t':=80) (cs:=[A3 m.kind,.slice true 1 (m.take.map Ac),.slice true 2 (m.give.map Cc),.slice true 6 (m.ahead.map Aa),.slice false 6 (m.back.map Aa)]) jU Tryz.type27 Tryz.sizeOf27 Tryz.sizeOf25 jU (Aj (Gd hm)) ?_ ?_ ?_ (hfsz:=Tryz.sizeOf25)
  ·simp [Tryz.t27];omega
  ·simp [Tryz.t27];omega
  refine Z0 ?_
  refine Gm jS (Gd hm) ?_ ?_
  ·exact Sy
  exact ANg
 rcases hT:Pc L i with ⟨x,k⟩|⟨e,a⟩
 rotate_left
 ·exact APa
 have hk:=Ui hl hll hi hT
 refine Se [0,0,2,6,14,0,32,96,254,511,1023,2047] [4,6] [.q 4 [] [],.s [20] (some 0) [] [],.q 1 [] [1],.s [22] (some 1) [] [],.q 1 [1] [],.s [20,24] none [0,1] []] (fun B=>U2 L Hp o om (if B 1=true then k else i) (if B 0=true then .cells 80 [A3 m.kind,.slice true 1 (m.take.map Ac),.slice true 2 (m.give.map Cc),.slice true 6 (m.ahead.map Aa),.slice false 6 (m.back.map Aa)] else .cells 80 [A3 m.kind,.slice true 1 (m.take.map Ac),.slice true 2 (m.give.map Cc),.slice true 6 (m.ahead.map Aa),.slice true 6 (m.back.map Aa)])) (fun _=>[.cells 4 [.v (.bool fb)]]) An (by kernel_rfl) (Uk ho hm) rfl (fun B=>U2_len) ?_
 apply Y.q
 ·intro B hT hF
  refine Aq (h:=Bd ((I2 n3 n4).trans hbm)) (hr:=?_)
  refine Aq (h:=Bd ((I2 n3 n4).trans hbm)) (hr:=?_)
  exact Z72
 case hTF=>decide
 refine Pz (o:=om) (t':=80) (cs:=[A3 m.kind,.slice true 1 (m.take.map Ac),.slice true 2 (m.give.map Cc),.slice true 6 (m.ahead.map Aa),.slice true 6 (m.back.map Aa)]) (cs':=[A3 m.kind,.slice true 1 (m.take.map Ac),.slice true 2 (m.give.map Cc),.slice true 6 (m.ahead.map Aa),.slice false 6 (m.back.map Aa)]) Tryz.isAgg25 (fun B hB=>⟨by simp only [hB];exact Gd hm,U2_setm.symm,rfl⟩) ?_
 apply Y.q
 ·intro B hT hF
  refine Aq (h:=Bd ((I2 n1 n2).trans hbp)) (hr:=?_)
  exact ix
 case hTF=>decide
 refine Og (r:=Aa x) (o:=o) (x0:=pmO L i) (x:=pmO L k) Tryz.call230 (fun B hB1 hB2 hB=>⟨by simp only [hB];exact Fa ho hne,(G7 hne).symm,rfl,Ez,?_⟩) ?_
 ·simp only [hB]
  exact APb
 apply Y.q
 ·intro B hT hF
  exact Z39
 case hTF=>decide
 refine Y.append jU Tryz.type27 ?_ ?_ ?_
 ·simp [Tryz.t27];omega
 ·simp [Tryz.t27];omega
 refine Ej (tn:=[4,6]) (U:=U2 L Hp o om k (.cells 80 [A3 m.kind,.slice true 1 (m.take.map Ac),.slice true 2 (m.give.map Cc),.slice true 6 (m.ahead.map Aa),.slice false 6 (m.back.map Aa)])) ?_;refine Z0 ?_
 refine Gm jS (Gd hm) ?_ ?_
 ·exact Sy
 exact ANg

theorem Jo {L:List Tok} {Hp:List AObj} {o om i j n:Nat} {x y:AObj} (hne:om≠o) (hy:ObjLow n y) (h:∀z∈U2 L Hp o om i x,ObjLow n z):∀z∈U2 L Hp o om j y,ObjLow n z:=by
 intro z hz
 rw [show U2 L Hp o om j y=((U2 L Hp o om i x).set o (pmO L j)).set om y by rw [G7 hne,U2_setm]] at hz
 rcases Mm hz with hz|rfl
 ·rcases Mm hz with hz|rfl
  ·exact h z hz
  exact Ez
 exact hy
theorem Fq {L:List Tok} {Hp own:List AObj} {o om i:Nat} {x:AObj} (h1:o<Hp.length) (h2:om<Hp.length):U2 L (Hp++own) o om i x=U2 L Hp o om i x++own:=by
 unfold U2
 rw [Lh _ _ h1,Lh _ _ (by simpa using h2)]
/-- Where the loop of things with commas between stands. -/
structure ListAt (L:List Tok) (n:Int) (one:Mov→Nat→PR Mov) (X:PR Mov) (x:Nat×Mov×Nat):Prop where
 lt:x.2.2<L.length
 pos:0<x.2.2
 le:MvLe x.2.1 (2*x.2.2)
 k:x.1≤x.2.2
 fuel:∃f,X=Uf L n one f x.1 x.2.1 x.2.2∧L.length-x.2.2<f
theorem ListAt.step {L:List Tok} {n:Int} {one:Mov→Nat→PR Mov} {X:PR Mov} {x:Nat×Mov×Nat} (h:ListAt L n one X x) (hq:Wt L n x.1 x.2.2=true):∃f,X=((Dl L [44] x.2.2).bind fun _ j=>(one x.2.1 j).bind fun m j=>Uf L n one f (x.1+1) m j)∧L.length-x.2.2<f+1:=by
 obtain ⟨f,e,hf⟩:=h.fuel
 obtain ⟨f,rfl⟩:∃g,f=g+1:=⟨f-1,by omega⟩
 refine ⟨f,?_,hf⟩
 rw [e,Uf,if_pos hq]
theorem ListAt.on {L:List Tok} (hl:TokEnd L) {n:Int} {one:Mov→Nat→PR Mov} (hP:cn L one) {X:PR Mov} {x:Nat×Mov×Nat} (h:ListAt L n one X x) (hq:Wt L n x.1 x.2.2=true) {u:Unit} {j:Nat} (hW:Dl L [44] x.2.2=.ok u j) {m2:Mov} {j2:Nat} (hO:one x.2.1 j=.ok m2 j2):ListAt L n one X (x.1+1,m2,j2)∧x.2.2<j2:=by
 obtain ⟨f,e,hf⟩:=h.step hq
 have h1:=Hb hl h.lt _ _ hW
 have hj:j=x.2.2+1:=by
  unfold Dl at hW
  split at hW
  ·injection hW with _ h;exact h.symm
  cases hW
 obtain ⟨a1,a2,a3⟩:=hP x.2.1 j (h.le.mono (by omega)) (by omega) h1.2 _ _ hO
 have:=h.k
 refine ⟨⟨a2,by show 0<j2;omega,a3,by show x.1+1≤j2;omega,f,?_,by show L.length-j2<f;omega⟩,by omega⟩
 rw [e,hW]
 show (one x.2.1 j).bind _=_
 rw [hO];rfl
theorem ListAt.bad1 {L:List Tok} {n:Int} {one:Mov→Nat→PR Mov} {X:PR Mov} {x:Nat×Mov×Nat} (h:ListAt L n one X x) (hq:Wt L n x.1 x.2.2=true) {e a:Int} (hW:Dl L [44] x.2.2=.bad e a):X=.bad e a:=by
 obtain ⟨f,e,_⟩:=h.step hq
 rw [e,hW];rfl
theorem ListAt.bad2 {L:List Tok} {n:Int} {one:Mov→Nat→PR Mov} {X:PR Mov} {x:Nat×Mov×Nat} (h:ListAt L n one X x) (hq:Wt L n x.1 x.2.2=true) {u:Unit} {j:Nat} (hW:Dl L [44] x.2.2=.ok u j) {e a:Int} (hO:one x.2.1 j=.bad e a):X=.bad e a:=by
 obtain ⟨f,e,_⟩:=h.step hq
 rw [e,hW]
 show (one x.2.1 j).bind _=_
 rw [hO];rfl
theorem ListAt.out {L:List Tok} {n:Int} {one:Mov→Nat→PR Mov} {X:PR Mov} {x:Nat×Mov×Nat} (h:ListAt L n one X x) (hq:Wt L n x.1 x.2.2=false):X=.ok x.2.1 x.2.2:=by
 obtain ⟨f,e,hf⟩:=h.fuel
 obtain ⟨f,rfl⟩:∃g,f=g+1:=⟨f-1,by omega⟩
 rw [e,Uf,if_neg (by rw [hq];simp)]
theorem AUd (L:List Tok) (m:Mov) (i o om bp bm:Nat) (Hp:List AObj) (hne:om≠o) (ho:Hp[o]? = some (pmO L i)) (hm:Hp[om]? = some (mvO m)) (hbp:Hp[bp]? = some (.cells 107 [.ptr o 0])) (hbm:Hp[bm]? = some (.cells 194 [.ptr om 0])) (hi:i<L.length) (hl:TokEnd L) (hll:L.length≤500000) (hb:MvLe m (2*i-1)):CP 196 [.ptr bm 0,.ptr bp 0] Hp (Uh L m i) (fun m' j r H'=>r=Rz∧H'=U2 L Hp o om j (mvO m')) (W2 L o om Hp):=by
 refine ⟨fun hX=>?_⟩
 have n1:bp≠o:=fun e=>by rw [e,ho] at hbp;simp at hbp
 have n2:bp≠om:=fun e=>by rw [e,hm] at hbp;simp at hbp
 have n3:bm≠o:=fun e=>by rw [e,ho] at hbm;simp at hbm
 have n4:bm≠om:=fun e=>by rw [e,hm] at hbm;simp at hbm
 have:=hb.take;have:=hb.give;have:=hb.ahead;have:=hb.back
 refine Ae [] [0,1] Tryz.func196 Tryz.ntmps196 (fun d=>?_)
 rcases hT:I9 L i with ⟨s,k⟩|⟨e,a⟩
 rotate_left
 ·exact (Dk hX (by first|exact by unfold Uh;rw [hT];rfl|exact hT)).elim
 have hk:=Jn hl hi _ _ hT
 refine Se [0,0,2,6,14,0,32,96,254,511,1023,2047] [4,6] [.q 4 [] [],.s [6] (some 0) [] [],.q 1 [] [1],.s [8] (some 1) [] [],.q 1 [1] [],.s [6,10] none [0,1] []] (fun B=>U2 L Hp o om (if B 1=true then k else i) (if B 0=true then .cells 80 [A3 m.kind,.slice false 1 (m.take.map Ac),.slice true 2 (m.give.map Cc),.slice true 6 (m.ahead.map Aa),.slice true 6 (m.back.map Aa)] else .cells 80 [A3 m.kind,.slice true 1 (m.take.map Ac),.slice true 2 (m.give.map Cc),.slice true 6 (m.ahead.map Aa),.slice true 6 (m.back.map Aa)])) (fun _=>[]) An (by kernel_rfl) (Uk ho hm) rfl (fun B=>U2_len) ?_
 apply Y.q
 ·intro B hT hF
  refine Aq (h:=Bd ((I2 n3 n4).trans hbm)) (hr:=?_)
  refine Aq (h:=Bd ((I2 n3 n4).trans hbm)) (hr:=?_)
  exact Z72
 case hTF=>decide
 refine Pz (o:=om) (t':=80) (cs:=[A3 m.kind,.slice true 1 (m.take.map Ac),.slice true 2 (m.give.map Cc),.slice true 6 (m.ahead.map Aa),.slice true 6 (m.back.map Aa)]) (cs':=[A3 m.kind,.slice false 1 (m.take.map Ac),.slice true 2 (m.give.map Cc),.slice true 6 (m.ahead.map Aa),.slice true 6 (m.back.map Aa)]) Tryz.isAgg22 (fun B hB=>⟨by simp only [hB];exact Gd hm,U2_setm.symm,rfl⟩) ?_
 apply Y.q
 ·intro B hT hF
  refine Aq (h:=Bd ((I2 n1 n2).trans hbp)) (hr:=?_)
  exact ix
 case hTF=>decide
 refine Og (r:=Ac s) (o:=o) (x0:=pmO L i) (x:=pmO L k) Tryz.call191 (fun B hB1 hB2 hB=>⟨by simp only [hB];exact Fa ho hne,(G7 hne).symm,rfl,Ez,?_⟩) ?_
 ·simp only [hB]
  exact (AA9 L i o _ (Aj (Fa ho hne)) hi hll).ok hT
 apply Y.q
 ·intro B hT hF
  exact Z39
 case hTF=>decide
 refine Y.append jU Tryz.type9 ?_ ?_ ?_
 ·simp [Tryz.t9];omega
 ·simp [Tryz.t9];omega
 refine Ej (tn:=[4,6]) (U:=U2 L Hp o om k (.cells 80 [A3 m.kind,.slice false 1 (m.take.map Ac),.slice true 2 (m.give.map Cc),.slice true 6 (m.ahead.map Aa),.slice true 6 (m.back.map Aa)])) ?_;refine Z0 ?_
 refine Gm jS (Gd hm) ?_ ?_
 ·simp [or_imp,forall_and]
 refine Mk ?_;exact F4 .nores (hp:=⟨w7 m s,k,by unfold Uh;rw [hT];rfl,rfl,by exact AAd⟩)

theorem AUe (L:List Tok) (m:Mov) (i o om bp bm:Nat) (Hp:List AObj) (hne:om≠o) (ho:Hp[o]? = some (pmO L i)) (hm:Hp[om]? = some (mvO m)) (hbp:Hp[bp]? = some (.cells 107 [.ptr o 0])) (hbm:Hp[bm]? = some (.cells 194 [.ptr om 0])) (hi:i<L.length) (hl:TokEnd L) (hll:L.length≤500000) (hb:MvLe m (2*i-1)):CP 195 [.ptr bp 0,.ptr bm 0] Hp (Fx L m i) (fun m' j r H'=>r=Rz∧H'=U2 L Hp o om j (mvO m')) (W2 L o om Hp):=by
 refine ⟨fun hX=>?_⟩
 have hol:=(Ad.1 ho).1
 have hml:=(Ad.1 hm).1
 have n1:bp≠o:=fun e=>by rw [e,ho] at hbp;simp at hbp
 have n2:bp≠om:=fun e=>by rw [e,hm] at hbp;simp at hbp
 have n3:bm≠o:=fun e=>by rw [e,ho] at hbm;simp at hbm
 have n4:bm≠om:=fun e=>by rw [e,hm] at hbm;simp at hbm
 have:=hb.take;have:=hb.give;have:=hb.ahead;have:=hb.back
 refine Ae [] [0,1] Tryz.func195 Tryz.ntmps195 (fun d=>?_)
 refine ACo ?_
 rcases hT:Fx L m i with ⟨m2,k⟩|⟨e,a⟩
 rotate_left
 ·exact (Dk hX hT).elim
 refine Ih ?_
 refine A5 (h:=Bd ((I2 n1 n2).trans hbp)) (hr:=?_)
 refine A5 (h:=Bd ((I2 n3 n4).trans hbm)) (hr:=?_)
 refine Hf (up':=U2 L Hp o om k (mvO m2)) (own':=[]) Tryz.call190 (((AJ4 L m i o om _ hne (Aj (Fa ho hne)) (Aj (Gd hm)) hi hl hll hb).ok hT).mono (fun r H' e=>⟨e.1,e.2.trans (by rw [H4,H4,Lg hne])⟩)) (by rw [U2_len,U2_len]) (fun h=>Jo hne Hc h) ?_;refine Mk ?_;exact F4 .nores (hp:=⟨m2,k,rfl,rfl,rfl⟩)

theorem AMk (L:List Tok) (n:Int) (m:Mov) (i o om g:Nat) (caps:List AV) (one:Mov→Nat→PR Mov) (Hp:List AObj) (hne:om≠o) (ho:Hp[o]? = some (pmO L i)) (hm:Hp[om]? = some (mvO m)) (h0:0<i) (hi:i<L.length) (hl:TokEnd L) (hll:L.length≤500000) (hb:MvLe m (2*i-1)) (hcall:∀args w,(callFunc g args).run Tryz.prog w=.ok (.enter g args) w) (hC:w9 L o om g caps Hp one) (hP:cn L one):CP 194 [.ptr o 0,A3 n,.fn (.func g) [] caps] Hp (Jl L n one m i) (fun m' j r H'=>r=Rz∧H'=U2 L Hp o om j (mvO m')) (W2 L o om Hp):=by
 refine ⟨fun hX=>?_⟩
 have hol:=(Ad.1 ho).1
 have hml:=(Ad.1 hm).1
 refine Ae [] [0,1,2] Tryz.func194 Tryz.ntmps194 (fun d=>?_)
 refine ACo ?_
 rcases h1:one m i with ⟨m1,j1⟩|⟨e,a⟩
 rotate_left
 ·exact (Dk hX (by first|exact by unfold Jl;rw [h1];rfl|exact h1)).elim
 have g1:=hP m i hb h0 hi _ _ h1
 have e0:Jl L n one m i=Uf L n one (L.length+1) 1 m1 j1:=by unfold Jl;rw [h1];rfl
 refine Z2 ?_
 refine R.callVX (up':=U2 L Hp o om j1 (mvO m1)) (own':=[]) hcall (by rw [H4,H4];exact (hC m i hb h0 hi).ok h1) (by rw [U2_len,U2_len]) (fun h=>Jo hne Hc h) ?_
 refine Y8 ?_;refine Z2 ?_;refine A2 [0,1,2,6] ?_
 refine Bi (α:=Nat×Mov×Nat) (fun x=>⟨30,A6 0 (.ptr o 0) (A6 1 (A3 n) (A6 2 (.fn (.func g) [] caps) (A6 6 (A3 (x.1:Int)) (fun _=>.any)))),U2 L Hp o om x.2.2 (mvO x.2.1),[],[],none⟩) (fun x=>ListAt L n one (Jl L n one m i) x) (fun x=>L.length-x.2.2) ((1,m1,j1)) ⟨g1.2.1,by show 0<j1;omega,g1.2.2,by show 1≤j1;omega,_,e0,by show L.length-j1<_;omega⟩ (N8 _) rfl (fun x hx=>?_)
 refine Z7 ?_;refine Z86 ?_;refine Z77 ?_;refine Ca Tryz.call197 (fun hB=>AQx L [44] x.2.2 o _ (Aj (Fa ho hne)) hx.lt) ?_;refine ip ?_;refine A2 [0,1,2,6,23] ?_
 refine A4 (fun ht23=>?_) (fun ht23=>?_)
 ·have hq:Wt L n x.1 x.2.2=true:=ht23
  refine Tg ?_
  rcases hW:Dl L [44] x.2.2 with ⟨u,j⟩|⟨e,a⟩
  rotate_left
  ·exact (Dk hX (by first|exact hx.bad1 hq hW|exact hW)).elim
  have hj:=Hb hl hx.lt _ _ hW
  have hpos:=hx.pos
  refine Z2 ?_;refine Cr (x:=pmO L j) Tryz.call153 (Fa ho hne) (by simp) Ez ((so L [44] x.2.2 o _ (Aj (Fa ho hne)) hx.lt hll).ok hW) ?_
  rw [G7 hne]
  refine A2 [0,1,2,6] ?_
  rcases hO:one x.2.1 j with ⟨m2,j2⟩|⟨e,a⟩
  rotate_left
  ·exact (Dk hX (by first|exact hx.bad2 hq hW hO|exact hO)).elim
  have hon:=hx.on hl hP hq hW hO
  refine Z50 ?_
  refine R.callVX (up':=U2 L Hp o om j2 (mvO m2)) (own':=[]) hcall (by rw [H4,H4];exact (hC x.2.1 j (hx.le.mono (by omega)) (by omega) hj.2).ok hO) (by rw [U2_len,U2_len]) (fun h=>Jo hne Hc h) ?_
  refine A2 [0,1,2,6] ?_;refine Z13 ?_;refine Z50 ?_
  refine A5 (h:=Sa (h2:=fun _=>by have:=hx.k;have:=hx.lt;omega)) (hr:=?_)
  refine A5 ?_;refine A2 [0,1,2,6] ?_
  refine Bt (x.1+1,m2,j2) hon.1 (by have:=hx.lt;have:=hon.2;show L.length-j2<L.length-x.2.2;omega) (Dx rfl)
 have hq:Wt L n x.1 x.2.2=false:=ht23
 have e:=hx.out hq
 refine Z52 ?_;refine K.lpE ?_;exact F4 .nores (hp:=⟨_,_,e,rfl,rfl⟩)

theorem CP.mono {g:FuncId} {args:List AV} {H:List AObj} {α:Type} {X:PR α} {Q Q':α→Nat→AV→List AObj→Prop} {R R':List AObj→Prop} (h:CP g args H X Q R) (hQ:∀c j r H',Q c j r H'→Q' c j r H') (hR:∀H',R H'→R' H'):CP g args H X Q' R':=
 ⟨fun hX=>(h.run hX).mono (fun r H' ⟨c,j,e,hq⟩=>⟨c,j,e,hQ _ _ _ _ hq⟩)⟩
section
variable {L:List Tok} {o om bp bm:Nat} {X:List AObj} {z z':AObj}
theorem AAe (hne:om≠o) (ho:X[o]? = some z) (hm:X[om]? = some z') (hbp:X[bp]? = some (.cells 107 [.ptr o 0])) (hbm:X[bm]? = some (.cells 194 [.ptr om 0])) (n1:bp≠o) (n2:bp≠om) (n3:bm≠o) (n4:bm≠om) (hl:TokEnd L) (hll:L.length≤500000):w9 L o om 231 [.ptr bm 0,.ptr bp 0] X (Wu L):=
 fun m i hb _ hi=>(AUc L m i o om bp bm (U2 L X o om i (mvO m)) hne (Fa ho hne) (Gd hm) ((I2 n1 n2).trans hbp) ((I2 n3 n4).trans hbm) hi hl hll hb).mono (fun c j r H' e=>⟨e.1,e.2.trans (Lg hne)⟩) (fun H' h=>AFk hne h)
theorem AAf (hne:om≠o) (ho:X[o]? = some z) (hm:X[om]? = some z') (hbp:X[bp]? = some (.cells 107 [.ptr o 0])) (hbm:X[bm]? = some (.cells 194 [.ptr om 0])) (n1:bp≠o) (n2:bp≠om) (n3:bm≠o) (n4:bm≠om) (hl:TokEnd L) (hll:L.length≤500000):w9 L o om 196 [.ptr bm 0,.ptr bp 0] X (Uh L):=
 fun m i hb _ hi=>(AUd L m i o om bp bm (U2 L X o om i (mvO m)) hne (Fa ho hne) (Gd hm) ((I2 n1 n2).trans hbp) ((I2 n3 n4).trans hbm) hi hl hll hb).mono (fun c j r H' e=>⟨e.1,e.2.trans (Lg hne)⟩) (fun H' h=>AFk hne h)
theorem AAg (hne:om≠o) (ho:X[o]? = some z) (hm:X[om]? = some z') (hbp:X[bp]? = some (.cells 107 [.ptr o 0])) (hbm:X[bm]? = some (.cells 194 [.ptr om 0])) (n1:bp≠o) (n2:bp≠om) (n3:bm≠o) (n4:bm≠om) (hl:TokEnd L) (hll:L.length≤500000):w9 L o om 195 [.ptr bp 0,.ptr bm 0] X (Fx L):=
 fun m i hb _ hi=>(AUe L m i o om bp bm (U2 L X o om i (mvO m)) hne (Fa ho hne) (Gd hm) ((I2 n1 n2).trans hbp) ((I2 n3 n4).trans hbm) hi hl hll hb).mono (fun c j r H' e=>⟨e.1,e.2.trans (Lg hne)⟩) (fun H' h=>AFk hne h)
end
attribute [go_sem] U2_len
theorem AAh {L:List Tok} {Hp own:List AObj} {o om i n:Nat} {x z:AObj} (h:own[n]? = some z):(U2 L Hp o om i x++own)[oid Hp.length n]? = some z:=by
 unfold oid
 rw [List.getElem?_append_right (by rw [U2_len];omega),U2_len,Nat.add_sub_cancel_left]
 exact h
theorem L8 {n k o:Nat} (h:o<n):oid n k≠o:=by unfold oid;omega
theorem AJ5 (L:List Tok) (m:Mov) (i o om:Nat) (Hp:List AObj) (hne:om≠o) (ho:Hp[o]? = some (pmO L i)) (hm:Hp[om]? = some (mvO m)) (hi:i<L.length) (hl:TokEnd L) (hll:L.length≤500000) (hb:MvLe m (2*i)):CP 192 [.ptr o 0,.ptr om 0] Hp (Gy L m i) (fun m' j r H'=>r=Rz∧H'=U2 L Hp o om j (mvO m')) (W2 L o om Hp):=by
 refine ⟨fun hX=>?_⟩
 have hol:=(List.getElem?_eq_some_iff.1 ho).1
 have hml:=(List.getElem?_eq_some_iff.1 hm).1
 refine ACall.body [] [0,1] Tryz.func192 Tryz.ntmps192 (fun d=>?_)
 refine ACa ?_;refine R.box ?_;refine Jz ?_;refine ACo ?_
 rcases hW:Dl L AFj i with ⟨u,j⟩|⟨e,a⟩
 rotate_left
 ·exact (Dk hX (by first|exact by unfold Gy;rw [hW];rfl|exact hW)).elim
 have hj:=Hb hl hi _ _ hW
 refine Z2 ?_;refine R.callUp (x:=pmO L j) Tryz.call153 (Fa ho hne) (by simp) Ez ((so L AFj i o _ (Aj (Fa ho hne)) hi hll).ok hW) ?_
 rw [G7 hne]
 refine Jz ?_
 rcases hP:Jl L ((m.take.map Ac).length:Int) (Wu L) m j with ⟨m2,k⟩|⟨e,a⟩
 rotate_left
 ·exact (Dk hX (by first|exact by unfold Gy;rw [hW];show Jl L _ _ m j=_;rw [←hP,List.length_map]|exact hP)).elim
 refine W.drawQ0 [0,0,2,6,14,30,0,127] 7 An (by kernel_rfl) ?_;refine X1 ?_
 refine D.go (h:=Q.loadUp (Gd hm)) (hr:=?_)
 refine D.go ?_;refine D.makeFunc ?_;refine D.tail ?_
 refine R.callX (up':=U2 L Hp o om k (mvO m2)) (own':=[.cells 107 [.ptr o 0],.cells 194 [.ptr om 0]]) Tryz.call194 (((AMk L (((m.take.map Ac).length:Int)) m j o om 231 [.ptr (oid Hp.length 1) 0,.ptr (oid Hp.length 0) 0] (Wu L) (U2 L Hp o om j (mvO m)++[.cells 107 [.ptr o 0],.cells 194 [.ptr om 0]]) hne (Aj (Fa ho hne)) (Aj (Gd hm)) (by omega) hj.2 hl hll (hb.mono (by omega)) Tryz.call231 (AAe (z:=pmO L j) (z':=mvO m) hne (Aj (Fa ho hne)) (Aj (Gd hm)) (AAh rfl) (AAh rfl) (L8 hol) (L8 hml) (L8 hol) (L8 hml) hl hll) (nx hl hll)).ok hP).mono (fun r H' e=>⟨e.1,e.2.trans (by first|rw [Fq (by rw [U2_len];exact hol) (by rw [U2_len];exact hml),Lg hne]|rw [Fq hol hml])⟩)) (by first|rfl|rw [U2_len,U2_len]|rw [U2_len]) (fun h=>Jo hne Hc h) ?_
 refine Mk ?_;exact K.finN .nores (hp:=⟨m2,k,by unfold Gy;rw [hW];show Jl L _ _ m j=_;rw [←hP,List.length_map],rfl,rfl⟩)

theorem fh {L:List Tok} {Hp:List AObj} {o om i:Nat} {m:Mov} {s:Str} {x:AObj}:(U2 L Hp o om i x).set om (.cells 80 [A3 m.kind,.slice true 1 [Ac s],.slice true 2 (m.give.map Cc),.slice true 6 (m.ahead.map Aa),.slice true 6 (m.back.map Aa)])=U2 L Hp o om i (mvO (takeS m s)):=U2_setm
theorem wc {n:Nat} {x:Expr}:Low n (.slice true 6 [.agg (Ex x)]):=by
 have:=Dj (n:=n) (k:=6) (o:=true) (l:=[x])
 simp only [Bm,Dc] at this
 rw [Ap] at this
 exact this
theorem nz {n:Nat} {x:Expr}:Low n (.slice true 6 [Aa x]):=Dj (l:=[x])
theorem AFl {L:List Tok} {m m1:Mov} {i k:Nat} (h:Fx L m i=.ok m1 k):(m1.give.map Cc)[0]? = some (Cc (m1.give.getD 0 ⟨[],0⟩)):=by
 obtain ⟨c,j,h1,h2⟩:=aw h
 obtain ⟨u,j2,h3,h4⟩:=aw h2
 obtain ⟨x,j3,h5,h6⟩:=aw h4
 injection h6 with h6 h7
 subst h6
 show ((m.give++[c]).map Cc)[0]? = some (Cc ((m.give++[c]).getD 0 ⟨[],0⟩))
 cases m.give<;>rfl
section
variable {L:List Tok} {m:Mov} {i:Nat}
theorem AFm (h1:(m.kind==1)=true):Jm L m i=Fx L m i:=if_pos h1
theorem sq (h1:(m.kind==1)=false) (h2:(m.kind==2)=true):Jm L m i=(I9 L i).bind fun s j=>Gy L (takeS m s) j:=by
 unfold Jm;rw [if_neg (by rw [h1];simp),if_pos h2]
theorem AFn (h1:(m.kind==1)=false) (h2:(m.kind==2)=false) (h3:(m.kind==3)=true):Jm L m i=Ls L m i:=by
 unfold Jm;rw [if_neg (by rw [h1];simp),if_neg (by rw [h2];simp),if_pos h3]
theorem ax (h1:(m.kind==1)=false) (h2:(m.kind==2)=false) (h3:(m.kind==3)=false) (h4:(m.kind==4)=true):Jm L m i=(I9 L i).bind fun s j=>(Dl L Lf j).bind fun _ j=>(Jl L 0 (Fx L) (takeS m s) j).bind fun m j=>Gy L m j:=by
 unfold Jm;rw [if_neg (by rw [h1];simp),if_neg (by rw [h2];simp),if_neg (by rw [h3];simp),if_pos h4]
theorem ay (h1:(m.kind==1)=false) (h2:(m.kind==2)=false) (h3:(m.kind==3)=false) (h4:(m.kind==4)=false) (h5:(m.kind==5)=true):Jm L m i=(Jl L 0 (Uh L) m i).bind fun m j=>(Dl L Lf j).bind fun _ j=>(Fx L m j).bind fun m j=>Gy L m j:=by
 unfold Jm;rw [if_neg (by rw [h1];simp),if_neg (by rw [h2];simp),if_neg (by rw [h3];simp),if_neg (by rw [h4];simp),if_pos h5]
theorem sr (h1:(m.kind==1)=false) (h2:(m.kind==2)=false) (h3:(m.kind==3)=false) (h4:(m.kind==4)=false) (h5:(m.kind==5)=false) (h6:(m.kind==6)=true):Jm L m i=(Fx L m i).bind fun m j=>Gy L (takeS m (m.give.getD 0 ⟨[],0⟩).name) j:=by
 unfold Jm;rw [if_neg (by rw [h1];simp),if_neg (by rw [h2];simp),if_neg (by rw [h3];simp),if_neg (by rw [h4];simp),if_neg (by rw [h5];simp),if_pos h6]
theorem AMl (h1:(m.kind==1)=false) (h2:(m.kind==2)=false) (h3:(m.kind==3)=false) (h4:(m.kind==4)=false) (h5:(m.kind==5)=false) (h6:(m.kind==6)=false):Jm L m i=.ok m i:=by
 unfold Jm;rw [if_neg (by rw [h1];simp),if_neg (by rw [h2];simp),if_neg (by rw [h3];simp),if_neg (by rw [h4];simp),if_neg (by rw [h5];simp),if_neg (by rw [h6];simp)]
end
theorem AUf (L:List Tok) (m:Mov) (i o om:Nat) (Hp:List AObj) (hne:om≠o) (ho:Hp[o]? = some (pmO L i)) (hm:Hp[om]? = some (mvO m)) (hi:i<L.length) (hl:TokEnd L) (hll:L.length≤500000) (hb:MvLe m (2*i-1)):CP 193 [.ptr o 0,.ptr om 0] Hp (Ls L m i) (fun m' j r H'=>r=Rz∧H'=U2 L Hp o om j (mvO m')) (W2 L o om Hp):=by
 refine ⟨fun hX=>?_⟩
 refine Ae [] [0,1] Tryz.func193 Tryz.ntmps193 (fun d=>?_)
 refine ACo ?_
 rcases h1:I9 L i with ⟨s,j⟩|⟨e,a⟩
 rotate_left
 ·exact (Dk hX (by first|exact by unfold Ls;rw [h1];rfl|exact h1)).elim
 have hj:=Jn hl hi _ _ h1
 refine Z1 ?_;refine Cr (x:=pmO L j) Tryz.call191 (Fa ho hne) (by simp) Ez ((AA9 L i o _ (Aj (Fa ho hne)) hi hll).ok h1) ?_
 rw [G7 hne]
 refine Ti ?_;refine Z0 ?_
 refine Gm jS (Gd hm) ?_ ?_
 ·simp [or_imp,forall_and]
 refine A2 [0,1] ?_;refine Sx (U2_setm (y:=.cells 80 [A3 m.kind,.slice true 1 ([Ac s]),.slice true 2 (m.give.map Cc),.slice true 6 (m.ahead.map Aa),.slice true 6 (m.back.map Aa)])) ?_
 rcases h2:Dl L toW j with ⟨u,j2⟩|⟨e,a⟩
 rotate_left
 ·exact (Dk hX (by first|exact by unfold Ls;rw [h1];show (Dl L toW j).bind _=_;rw [h2];rfl|exact h2)).elim
 have hj2:=Hb hl hj.2 _ _ h2
 refine Z2 ?_;refine Cr (x:=pmO L j2) Tryz.call153 (Fa ho hne) (by simp) Ez ((so L toW j o _ (Aj (Fa ho hne)) hj.2 hll).ok h2) ?_
 rw [G7 hne]
 refine A2 [0,1] ?_
 rcases h3:I9 L j2 with ⟨t,k⟩|⟨e,a⟩
 rotate_left
 ·exact (Dk hX (by first|exact by unfold Ls;rw [h1];show (Dl L toW j).bind _=_;rw [h2];show (I9 L j2).bind _=_;rw [h3];rfl|exact h3)).elim
 refine Z2 ?_;refine Cr (x:=pmO L k) Tryz.call191 (Fa ho hne) (by simp) Ez ((AA9 L j2 o _ (Aj (Fa ho hne)) hj2.2 hll).ok h3) ?_
 rw [G7 hne]
 refine A5 ?_;refine A2 [1,4] ?_;refine AKq ?_;refine Ti ?_;refine Z0 ?_
 refine Gm jS (Gd hm) ?_ ?_
 ·simp [or_imp,forall_and]
 refine A2 [1,4] ?_;refine Sx (U2_setm (y:=.cells 80 [A3 m.kind,.slice true 1 ([Ac s]),.slice true 2 ([Cc ⟨t,0⟩]),.slice true 6 (m.ahead.map Aa),.slice true 6 (m.back.map Aa)])) ?_;refine Z21 ?_;refine Z12 ?_
 refine A5 (h:=Bd (Gd hm)) (hr:=?_)
 refine A5 (h:=Ag (0) (Ac s) (fun _=>rfl)) (hr:=?_)
 refine A5 ?_;refine A7 Tryz.call209 (AI1 s _) ?_;refine Ti ?_;refine A5 ?_;refine A7 Tryz.call209 (AI1 t _) ?_;refine Ti ?_;refine Z0 ?_
 refine Gm jS (Gd hm) ?_ ?_
 ·first|exact wc|exact nz
 rw [U2_setm]
 refine Z0 ?_
 refine Gm jS (Gd hm) ?_ ?_
 ·first|exact wc|exact nz
 rw [U2_setm]
 refine Mk ?_;exact F4 .nores (hp:=⟨⟨m.kind,[s],[⟨t,0⟩],[D6 s],[D6 t]⟩,k,by unfold Ls;rw [h1];show (Dl L toW j).bind _=_;rw [h2];show (I9 L j2).bind _=_;rw [h3];rfl,rfl,by simp only [mvO,mvC,Bm,Dc,Ap]⟩)

theorem AAi {L:List Tok} {Hp:List AObj} {o om i:Nat} {m:Mov} {c:Col} {x:AObj}:(U2 L Hp o om i x).set om (.cells 80 [A3 m.kind,.slice true 1 [Ac c.name],.slice true 2 (m.give.map Cc),.slice true 6 (m.ahead.map Aa),.slice true 6 (m.back.map Aa)])=U2 L Hp o om i (mvO (takeS m c.name)):=U2_setm
theorem AUg (L:List Tok) (m:Mov) (i o om:Nat) (Hp:List AObj) (hne:om≠o) (ho:Hp[o]? = some (pmO L i)) (hm:Hp[om]? = some (mvO m)) (hi:i<L.length) (hl:TokEnd L) (hll:L.length≤500000) (hb:MvLe m (2*i-1)) (h0:0<i):CP 152 [.ptr o 0,.ptr om 0] Hp (Jm L m i) (fun m' j r H'=>r=Rz∧H'=U2 L Hp o om j (mvO m')) (W2 L o om Hp):=by
 refine ⟨fun hX=>?_⟩
 have hol:=(Ad.1 ho).1
 have hml:=(Ad.1 hm).1
 refine Ae [] [0,1] Tryz.func152 Tryz.ntmps152 (fun d=>?_)
 refine ACa ?_;refine R.box ?_;refine Jz ?_;refine ACo ?_;refine Z15 ?_
 refine A5 (h:=Bd (Gd hm)) (hr:=?_)
 refine A2 [2,3,7] ?_;refine X0 ?_;refine A2 [2,3,7,8] ?_
 refine A4 (fun ht8=>?_) (fun ht8=>?_)
 ·rcases h1:Fx L m i with ⟨m1,k⟩|⟨e,a⟩
  rotate_left
  ·exact (Dk hX (by first|exact by rw [AFm ht8];rw [h1]|exact h1)).elim
  refine Z21 ?_
  refine Hf (up':=U2 L Hp o om k (mvO m1)) (own':=[.cells 107 [.ptr o 0],.cells 194 [.ptr om 0]]) Tryz.call190 (((AJ4 L m i o om (U2 L Hp o om i (mvO m)++[.cells 107 [.ptr o 0],.cells 194 [.ptr om 0]]) hne (Aj (Fa ho hne)) (Aj (Gd hm)) hi hl hll hb).ok h1).mono (fun r H' e=>⟨e.1,e.2.trans (by first|rw [Fq (by rw [U2_len];exact hol) (by rw [U2_len];exact hml),Lg hne]|rw [Fq hol hml])⟩)) (by first|rfl|rw [U2_len,U2_len]|rw [U2_len]) (fun h=>Jo hne Hc h) ?_
  refine Z91 ?_;exact F4 .nores (hp:=⟨m1,k,by rw [AFm ht8];rw [h1],rfl,rfl⟩)
 refine Z1 ?_;refine A2 [2,3,7,13] ?_
 refine A4 (fun ht13=>?_) (fun ht13=>?_)
 ·rcases h1:I9 L i with ⟨s,j⟩|⟨e,a⟩
  rotate_left
  ·exact (Dk hX (by first|exact by rw [sq ht8 ht13];rw [h1];rfl|exact h1)).elim
  have hj:=Jn hl hi _ _ h1
  refine Fd [0,0,2,6,15,31,63] [2] [.q 2 [] [],.s [17] (some 0) [] [],.s [18] none [0] []] (fun B=>U2 L Hp o om (if B 0=true then j else i) (mvO m)) (fun _=>[.cells 107 [.ptr o 0],.cells 194 [.ptr om 0]]) An (by kernel_rfl) rfl rfl (fun B=>by rw [U2_len];exact U2_len.symm) ?_
  apply Y.q
  ·intro B hT hF
   exact Z72
  case hTF=>decide
  refine Og (r:=Ac s) (o:=o) (x0:=pmO L i) (x:=pmO L j) Tryz.call191 (fun B hB1 hB2 hB=>⟨by simp only [hB];exact Fa ho hne,(G7 hne).symm,rfl,Ez,?_⟩) ?_
  ·simp only [hB]
   exact (AA9 L i o _ (Aj (Fa ho hne)) hi hll).ok h1
  refine ANt ?_;refine Z0 ?_
  refine Gm jS (Gd hm) ?_ ?_
  ·simp [or_imp,forall_and]
  refine Jz ?_;refine Sx (fh (m:=m) (s:=s)) ?_
  rcases h2:Gy L (takeS m s) j with ⟨m2,k⟩|⟨e,a⟩
  rotate_left
  ·exact (Dk hX (by first|exact by rw [sq ht8 ht13];rw [h1];show Gy L (takeS m s) j=_;rw [h2]|exact h2)).elim
  refine Z21 ?_
  refine Hf (up':=U2 L Hp o om k (mvO m2)) (own':=[.cells 107 [.ptr o 0],.cells 194 [.ptr om 0]]) Tryz.call192 (((AJ5 L (takeS m s) j o om (U2 L Hp o om j (mvO (takeS m s))++[.cells 107 [.ptr o 0],.cells 194 [.ptr om 0]]) hne (Aj (Fa ho hne)) (Aj (Gd hm)) hj.2 hl hll ((hb.mono (by omega:2*i-1≤2*j)).takeS (by omega))).ok h2).mono (fun r H' e=>⟨e.1,e.2.trans (by first|rw [Fq (by rw [U2_len];exact hol) (by rw [U2_len];exact hml),Lg hne]|rw [Fq hol hml])⟩)) (by first|rfl|rw [U2_len,U2_len]|rw [U2_len]) (fun h=>Jo hne Hc h) ?_
  refine Z91 ?_;exact F4 .nores (hp:=⟨m2,k,by rw [sq ht8 ht13];rw [h1];show Gy L (takeS m s) j=_;rw [h2],rfl,rfl⟩)
 refine Z1 ?_;refine A2 [2,3,7,24] ?_
 refine A4 (fun ht24=>?_) (fun ht24=>?_)
 ·rcases h1:Ls L m i with ⟨m1,k⟩|⟨e,a⟩
  rotate_left
  ·exact (Dk hX (by first|exact by rw [AFn ht8 ht13 ht24];rw [h1]|exact h1)).elim
  refine Z21 ?_
  refine Hf (up':=U2 L Hp o om k (mvO m1)) (own':=[.cells 107 [.ptr o 0],.cells 194 [.ptr om 0]]) Tryz.call193 (((AUf L m i o om (U2 L Hp o om i (mvO m)++[.cells 107 [.ptr o 0],.cells 194 [.ptr om 0]]) hne (Aj (Fa ho hne)) (Aj (Gd hm)) hi hl hll hb).ok h1).mono (fun r H' e=>⟨e.1,e.2.trans (by first|rw [Fq (by rw [U2_len];exact hol) (by rw [U2_len];exact hml),Lg hne]|rw [Fq hol hml])⟩)) (by first|rfl|rw [U2_len,U2_len]|rw [U2_len]) (fun h=>Jo hne Hc h) ?_
  refine Z91 ?_;exact F4 .nores (hp:=⟨m1,k,by rw [AFn ht8 ht13 ht24];rw [h1],rfl,rfl⟩)
 refine Z1 ?_;refine A2 [2,3,7,29] ?_
 refine A4 (fun ht29=>?_) (fun ht29=>?_)
 ·rcases h1:I9 L i with ⟨s,j⟩|⟨e,a⟩
  rotate_left
  ·exact (Dk hX (by first|exact by rw [ax ht8 ht13 ht24 ht29];rw [h1];rfl|exact h1)).elim
  have hj:=Jn hl hi _ _ h1
  refine Fd [0,0,2,6,15,31,63] [2] [.q 2 [] [],.s [33] (some 0) [] [],.s [34] none [0] []] (fun B=>U2 L Hp o om (if B 0=true then j else i) (mvO m)) (fun _=>[.cells 107 [.ptr o 0],.cells 194 [.ptr om 0]]) An (by kernel_rfl) rfl rfl (fun B=>by rw [U2_len];exact U2_len.symm) ?_
  apply Y.q
  ·intro B hT hF
   exact Z72
  case hTF=>decide
  refine Og (r:=Ac s) (o:=o) (x0:=pmO L i) (x:=pmO L j) Tryz.call191 (fun B hB1 hB2 hB=>⟨by simp only [hB];exact Fa ho hne,(G7 hne).symm,rfl,Ez,?_⟩) ?_
  ·simp only [hB]
   exact (AA9 L i o _ (Aj (Fa ho hne)) hi hll).ok h1
  refine ANt ?_;refine Z0 ?_
  refine Gm jS (Gd hm) ?_ ?_
  ·simp [or_imp,forall_and]
  refine Jz ?_;refine Sx (fh (m:=m) (s:=s)) ?_
  rcases h2:Dl L Lf j with ⟨u,j2⟩|⟨e,a⟩
  rotate_left
  ·exact (Dk hX (by first|exact by rw [ax ht8 ht13 ht24 ht29];rw [h1];show (Dl L Lf j).bind _=_;rw [h2];rfl|exact h2)).elim
  have hj2:=Hb hl hj.2 _ _ h2
  refine Z2 ?_;refine Cr (x:=pmO L j2) Tryz.call153 (Fa ho hne) (by simp) Ez ((so L Lf j o _ (Aj (Fa ho hne)) hj.2 hll).ok h2) ?_
  rw [G7 hne]
  refine Jz ?_
  rcases h3:Jl L 0 (Fx L) (takeS m s) j2 with ⟨m1,j3⟩|⟨e,a⟩
  rotate_left
  ·exact (Dk hX (by first|exact by rw [ax ht8 ht13 ht24 ht29];rw [h1];show (Dl L Lf j).bind _=_;rw [h2];show (Jl L 0 (Fx L) (takeS m s) j2).bind _=_;rw [h3];rfl|exact h3)).elim
  have hj3:=Uj hl (N1 hl hll) (takeS m s) j2 ((hb.mono (by omega:2*i-1≤2*j2-1)).takeS (by omega)) (by omega) hj2.2 _ _ h3
  refine Z2 ?_;refine J9 ?_
  refine Hf (up':=U2 L Hp o om j3 (mvO m1)) (own':=[.cells 107 [.ptr o 0],.cells 194 [.ptr om 0]]) Tryz.call194 (((AMk L (0) (takeS m s) j2 o om 195 [.ptr (oid Hp.length 0) 0,.ptr (oid Hp.length 1) 0] (Fx L) (U2 L Hp o om j2 (mvO (takeS m s))++[.cells 107 [.ptr o 0],.cells 194 [.ptr om 0]]) hne (Aj (Fa ho hne)) (Aj (Gd hm)) (by omega) hj2.2 hl hll ((hb.mono (by omega:2*i-1≤2*j2-1)).takeS (by omega)) Tryz.call195 (AAg (z:=pmO L j2) (z':=mvO (takeS m s)) hne (Aj (Fa ho hne)) (Aj (Gd hm)) (AAh rfl) (AAh rfl) (L8 hol) (L8 hml) (L8 hol) (L8 hml) hl hll) (N1 hl hll)).ok h3).mono (fun r H' e=>⟨e.1,e.2.trans (by first|rw [Fq (by rw [U2_len];exact hol) (by rw [U2_len];exact hml),Lg hne]|rw [Fq hol hml])⟩)) (by first|rfl|rw [U2_len,U2_len]|rw [U2_len]) (fun h=>Jo hne Hc h) ?_
  refine Jz ?_
  rcases h4:Gy L m1 j3 with ⟨m2,k⟩|⟨e,a⟩
  rotate_left
  ·exact (Dk hX (by first|exact by rw [ax ht8 ht13 ht24 ht29];rw [h1];show (Dl L Lf j).bind _=_;rw [h2];show (Jl L 0 (Fx L) (takeS m s) j2).bind _=_;rw [h3];show Gy L m1 j3=_;rw [h4]|exact h4)).elim
  refine Z21 ?_
  refine Hf (up':=U2 L Hp o om k (mvO m2)) (own':=[.cells 107 [.ptr o 0],.cells 194 [.ptr om 0]]) Tryz.call192 (((AJ5 L m1 j3 o om (U2 L Hp o om j3 (mvO m1)++[.cells 107 [.ptr o 0],.cells 194 [.ptr om 0]]) hne (Aj (Fa ho hne)) (Aj (Gd hm)) hj3.2.1 hl hll hj3.2.2).ok h4).mono (fun r H' e=>⟨e.1,e.2.trans (by first|rw [Fq (by rw [U2_len];exact hol) (by rw [U2_len];exact hml),Lg hne]|rw [Fq hol hml])⟩)) (by first|rfl|rw [U2_len,U2_len]|rw [U2_len]) (fun h=>Jo hne Hc h) ?_
  refine Z91 ?_;exact F4 .nores (hp:=⟨m2,k,by rw [ax ht8 ht13 ht24 ht29];rw [h1];show (Dl L Lf j).bind _=_;rw [h2];show (Jl L 0 (Fx L) (takeS m s) j2).bind _=_;rw [h3];show Gy L m1 j3=_;rw [h4],rfl,rfl⟩)
 refine Z1 ?_;refine A2 [2,3,7,45] ?_
 refine A4 (fun ht45=>?_) (fun ht45=>?_)
 ·rcases h1:Jl L 0 (Uh L) m i with ⟨m1,j⟩|⟨e,a⟩
  rotate_left
  ·exact (Dk hX (by first|exact by rw [ay ht8 ht13 ht24 ht29 ht45];rw [h1];rfl|exact h1)).elim
  have hj:=Uj hl (av hl) m i hb h0 hi _ _ h1
  refine Z2 ?_;refine J9 ?_
  refine Hf (up':=U2 L Hp o om j (mvO m1)) (own':=[.cells 107 [.ptr o 0],.cells 194 [.ptr om 0]]) Tryz.call194 (((AMk L (0) m i o om 196 [.ptr (oid Hp.length 1) 0,.ptr (oid Hp.length 0) 0] (Uh L) (U2 L Hp o om i (mvO m)++[.cells 107 [.ptr o 0],.cells 194 [.ptr om 0]]) hne (Aj (Fa ho hne)) (Aj (Gd hm)) h0 hi hl hll hb Tryz.call196 (AAf (z:=pmO L i) (z':=mvO m) hne (Aj (Fa ho hne)) (Aj (Gd hm)) (AAh rfl) (AAh rfl) (L8 hol) (L8 hml) (L8 hol) (L8 hml) hl hll) (av hl)).ok h1).mono (fun r H' e=>⟨e.1,e.2.trans (by first|rw [Fq (by rw [U2_len];exact hol) (by rw [U2_len];exact hml),Lg hne]|rw [Fq hol hml])⟩)) (by first|rfl|rw [U2_len,U2_len]|rw [U2_len]) (fun h=>Jo hne Hc h) ?_
  refine Jz ?_
  rcases h2:Dl L Lf j with ⟨u,j2⟩|⟨e,a⟩
  rotate_left
  ·exact (Dk hX (by first|exact by rw [ay ht8 ht13 ht24 ht29 ht45];rw [h1];show (Dl L Lf j).bind _=_;rw [h2];rfl|exact h2)).elim
  have hj2:=Hb hl hj.2.1 _ _ h2
  have hj2e:=P5 h2
  refine Z2 ?_;refine Cr (x:=pmO L j2) Tryz.call153 (Fa ho hne) (by simp) Ez ((so L Lf j o _ (Aj (Fa ho hne)) hj.2.1 hll).ok h2) ?_
  rw [G7 hne]
  refine Jz ?_
  rcases h3:Fx L m1 j2 with ⟨m2,j3⟩|⟨e,a⟩
  rotate_left
  ·exact (Dk hX (by first|exact by rw [ay ht8 ht13 ht24 ht29 ht45];rw [h1];show (Dl L Lf j).bind _=_;rw [h2];show (Fx L m1 j2).bind _=_;rw [h3];rfl|exact h3)).elim
  have hj3:=N1 hl hll m1 j2 (hj.2.2.mono (by omega)) (by omega) hj2.2 _ _ h3
  refine Z1 ?_
  refine Hf (up':=U2 L Hp o om j3 (mvO m2)) (own':=[.cells 107 [.ptr o 0],.cells 194 [.ptr om 0]]) Tryz.call190 (((AJ4 L m1 j2 o om (U2 L Hp o om j2 (mvO m1)++[.cells 107 [.ptr o 0],.cells 194 [.ptr om 0]]) hne (Aj (Fa ho hne)) (Aj (Gd hm)) hj2.2 hl hll (hj.2.2.mono (by omega))).ok h3).mono (fun r H' e=>⟨e.1,e.2.trans (by first|rw [Fq (by rw [U2_len];exact hol) (by rw [U2_len];exact hml),Lg hne]|rw [Fq hol hml])⟩)) (by first|rfl|rw [U2_len,U2_len]|rw [U2_len]) (fun h=>Jo hne Hc h) ?_
  refine Jz ?_
  rcases h4:Gy L m2 j3 with ⟨m3,k⟩|⟨e,a⟩
  rotate_left
  ·exact (Dk hX (by first|exact by rw [ay ht8 ht13 ht24 ht29 ht45];rw [h1];show (Dl L Lf j).bind _=_;rw [h2];show (Fx L m1 j2).bind _=_;rw [h3];show Gy L m2 j3=_;rw [h4]|exact h4)).elim
  refine Z21 ?_
  refine Hf (up':=U2 L Hp o om k (mvO m3)) (own':=[.cells 107 [.ptr o 0],.cells 194 [.ptr om 0]]) Tryz.call192 (((AJ5 L m2 j3 o om (U2 L Hp o om j3 (mvO m2)++[.cells 107 [.ptr o 0],.cells 194 [.ptr om 0]]) hne (Aj (Fa ho hne)) (Aj (Gd hm)) hj3.2.1 hl hll hj3.2.2).ok h4).mono (fun r H' e=>⟨e.1,e.2.trans (by first|rw [Fq (by rw [U2_len];exact hol) (by rw [U2_len];exact hml),Lg hne]|rw [Fq hol hml])⟩)) (by first|rfl|rw [U2_len,U2_len]|rw [U2_len]) (fun h=>Jo hne Hc h) ?_
  refine Z91 ?_;exact F4 .nores (hp:=⟨m3,k,by rw [ay ht8 ht13 ht24 ht29 ht45];rw [h1];show (Dl L Lf j).bind _=_;rw [h2];show (Fx L m1 j2).bind _=_;rw [h3];show Gy L m2 j3=_;rw [h4],rfl,rfl⟩)
 refine Z1 ?_;refine A2 [2,3,58] ?_
 refine A4 (fun ht58=>?_) (fun ht58=>?_)
 ·rcases h1:Fx L m i with ⟨m1,j⟩|⟨e,a⟩
  rotate_left
  ·exact (Dk hX (by first|exact by rw [sr ht8 ht13 ht24 ht29 ht45 ht58];rw [h1];rfl|exact h1)).elim
  have hj:=N1 hl hll m i hb h0 hi _ _ h1
  refine Z1 ?_
  refine Hf (up':=U2 L Hp o om j (mvO m1)) (own':=[.cells 107 [.ptr o 0],.cells 194 [.ptr om 0]]) Tryz.call190 (((AJ4 L m i o om (U2 L Hp o om i (mvO m)++[.cells 107 [.ptr o 0],.cells 194 [.ptr om 0]]) hne (Aj (Fa ho hne)) (Aj (Gd hm)) hi hl hll hb).ok h1).mono (fun r H' e=>⟨e.1,e.2.trans (by first|rw [Fq (by rw [U2_len];exact hol) (by rw [U2_len];exact hml),Lg hne]|rw [Fq hol hml])⟩)) (by first|rfl|rw [U2_len,U2_len]|rw [U2_len]) (fun h=>Jo hne Hc h) ?_
  refine Jz ?_;refine Fd [0,0,2,6,14,30,62,126,254,511,1023,2047] [] [.q 8 [] [],.s [71] none [] []] (fun _=>U2 L Hp o om j (mvO m1)) (fun _=>[.cells 107 [.ptr o 0],.cells 194 [.ptr om 0]]) An (by kernel_rfl) rfl rfl (fun B=>rfl) ?_
  apply Y.q
  ·intro B hT hF
   refine X1 ?_
   refine Aq (h:=Bd (Gd hm)) (hr:=?_)
   refine Aq (h:=Ag (0) (Cc (m1.give.getD 0 ⟨[],0⟩)) (fun _=>AFl h1)) (hr:=?_)
   exact Z72
  case hTF=>decide
  refine Y.buildSlice jU Tryz.sizeOf9 Tryz.zeroValue9 ?_;refine Ej (tn:=[]) (U:=U2 L Hp o om j (mvO m1)) ?_;refine Z0 ?_
  refine Gm jS (Gd hm) ?_ ?_
  ·simp [or_imp,forall_and]
  refine Jz ?_;refine Sx (AAi (m:=m1) (c:=m1.give.getD 0 ⟨[],0⟩)) ?_
  rcases h2:Gy L (takeS m1 (m1.give.getD 0 ⟨[],0⟩).name) j with ⟨m2,k⟩|⟨e,a⟩
  rotate_left
  ·exact (Dk hX (by first|exact by rw [sr ht8 ht13 ht24 ht29 ht45 ht58];rw [h1];show Gy L (takeS m1 (m1.give.getD 0 ⟨[],0⟩).name) j=_;rw [h2]|exact h2)).elim
  refine Z21 ?_
  refine Hf (up':=U2 L Hp o om k (mvO m2)) (own':=[.cells 107 [.ptr o 0],.cells 194 [.ptr om 0]]) Tryz.call192 (((AJ5 L (takeS m1 (m1.give.getD 0 ⟨[],0⟩).name) j o om (U2 L Hp o om j (mvO (takeS m1 (m1.give.getD 0 ⟨[],0⟩).name))++[.cells 107 [.ptr o 0],.cells 194 [.ptr om 0]]) hne (Aj (Fa ho hne)) (Aj (Gd hm)) hj.2.1 hl hll (hj.2.2.takeS (by omega))).ok h2).mono (fun r H' e=>⟨e.1,e.2.trans (by first|rw [Fq (by rw [U2_len];exact hol) (by rw [U2_len];exact hml),Lg hne]|rw [Fq hol hml])⟩)) (by first|rfl|rw [U2_len,U2_len]|rw [U2_len]) (fun h=>Jo hne Hc h) ?_
  refine Z91 ?_;exact F4 .nores (hp:=⟨m2,k,by rw [sr ht8 ht13 ht24 ht29 ht45 ht58];rw [h1];show Gy L (takeS m1 (m1.give.getD 0 ⟨[],0⟩).name) j=_;rw [h2],rfl,rfl⟩)
 refine px ?_;exact F4 .nores (hp:=⟨m,i,AMl ht8 ht13 ht24 ht29 ht45 ht58,rfl,rfl⟩)

def AQz:Str:=[32,97,100,100,32,100,114,111,112,32,114,101,110,97,109,101,32,115,112,108,105,116,32,109,101,114,103,101,32,114,101,116,121,112,101]
theorem AAj:Q7 AQz [32]=migWords:=by kernel_rfl
theorem AUh (k:Int) (Hp:List AObj):AFun Tryz.prog 189 [A3 k] Hp (Ac (F5 k)):=by
 refine Ae [.tmp 2] [0] Tryz.func189 Tryz.ntmps189 (fun d=>?_)
 refine la ?_;refine ip ?_;refine A2 [0,8] ?_
 refine A4 (fun ht8=>?_) (fun ht8=>?_)
 ·have hm:F5 k=[]:=if_pos ht8
  refine Z46 ?_;exact Z60
 have hm:F5 k=migWords.getD k.toNat []:=if_neg (by rw [ht8];simp)
 refine l6 ?_;refine A7 Tryz.call141 (AL4 AQz [32] (by decide) (by decide) _) ?_
 rw [AAj]
 refine A5 ?_
 have hk:1≤k∧k≤6:=by simp at ht8;omega
 have hget:(migWords.map Ac)[k.toNat]? = some (Ac (migWords.getD k.toNat [])):=by
  have hlt:k.toNat<migWords.length:=by show k.toNat<7;omega
  rw [C5,Ab hlt,Bv,Ab hlt]
  rfl
 refine A5 (h:=Ag (k.toNat) (Ac (migWords.getD k.toNat [])) (fun _=>hget)) (hr:=?_)
 refine Z66 ?_;exact lc

theorem AAk {s:Str} {x:Nat} (h:∀j:Nat,j<x→(F5 ((j:Int)+1)==s)=false) (hx:x<6) (he:(F5 ((x:Int)+1)==s)=true):If s=(x:Int)+1:=by
 have a:∀j:Nat,j<x→∀k:Int,k=(j:Int)+1→(F5 k==s)=false:=fun j hj k e=>by rw [e];exact h j hj
 have b:∀k:Int,k=(x:Int)+1→(F5 k==s)=true:=fun k e=>by rw [e];exact he
 have h6:x=0∨x=1∨x=2∨x=3∨x=4∨x=5:=by omega
 unfold If
 rcases h6 with rfl|rfl|rfl|rfl|rfl|rfl
 ·rw [if_pos (b 1 rfl)];rfl
 ·rw [if_neg (by rw [a 0 (by omega) 1 rfl];simp),if_pos (b 2 rfl)];rfl
 ·rw [if_neg (by rw [a 0 (by omega) 1 rfl];simp),if_neg (by rw [a 1 (by omega) 2 rfl];simp),if_pos (b 3 rfl)];rfl
 ·rw [if_neg (by rw [a 0 (by omega) 1 rfl];simp),if_neg (by rw [a 1 (by omega) 2 rfl];simp),if_neg (by rw [a 2 (by omega) 3 rfl];simp),if_pos (b 4 rfl)];rfl
 ·rw [if_neg (by rw [a 0 (by omega) 1 rfl];simp),if_neg (by rw [a 1 (by omega) 2 rfl];simp),if_neg (by rw [a 2 (by omega) 3 rfl];simp),if_neg (by rw [a 3 (by omega) 4 rfl];simp),if_pos (b 5 rfl)];rfl
 rw [if_neg (by rw [a 0 (by omega) 1 rfl];simp),if_neg (by rw [a 1 (by omega) 2 rfl];simp),if_neg (by rw [a 2 (by omega) 3 rfl];simp),if_neg (by rw [a 3 (by omega) 4 rfl];simp),if_neg (by rw [a 4 (by omega) 5 rfl];simp),if_pos (b 6 rfl)];rfl
theorem o4 {s:Str} {x:Nat} (h:∀j:Nat,j<x→(F5 ((j:Int)+1)==s)=false) (he:(F5 ((x:Int)+1)==s)=false):∀j:Nat,j<x+1→(F5 ((j:Int)+1)==s)=false:=fun j hj=>by
 rcases Bw j x with h1|h1
 ·exact h j h1
 rw [show j=x by omega];exact he
theorem AAl {s:Str} {x:Nat} (h:∀j:Nat,j<x→(F5 ((j:Int)+1)==s)=false) (hx:6≤x):If s=0:=by
 have a:∀j:Nat,j<6→∀k:Int,k=(j:Int)+1→(F5 k==s)=false:=fun j hj k e=>by rw [e];exact h j (by omega)
 unfold If
 rw [if_neg (by rw [a 0 (by omega) 1 rfl];simp),if_neg (by rw [a 1 (by omega) 2 rfl];simp),if_neg (by rw [a 2 (by omega) 3 rfl];simp),if_neg (by rw [a 3 (by omega) 4 rfl];simp),if_neg (by rw [a 4 (by omega) 5 rfl];simp),if_neg (by rw [a 5 (by omega) 6 rfl];simp)]
theorem AUi (s:Str) (Hp:List AObj):AFun Tryz.prog 151 [Ac s] Hp (A3 (If s)):=by
 refine Ae [.tmp 2] [0] Tryz.func151 Tryz.ntmps151 (fun d=>?_)
 refine Z42 ?_;refine Z33 ?_;refine No ?_
 refine Bi (α:=Nat) (fun x=>⟨13,A6 0 (Ac s) (A6 3 (A3 ((x:Nat)+1)) (fun _=>.any)),Hp,[],[],none⟩) (fun x=>∀j:Nat,j<x→(F5 ((j:Int)+1)==s)=false) (fun x=>6-x) (0) (fun j h=>by omega) (N8 _) rfl (fun x hx=>?_)
 refine Z7 ?_;refine A2 [0,3,5] ?_
 refine A4 (fun ht5=>?_) (fun ht5=>?_)
 ·have hx6:x<6:=by simp at ht5;omega
  refine Tg ?_;refine Z2 ?_;refine A7 Tryz.call189 (AUh _ _) ?_;refine Z0 ?_;refine A2 [0,3,11] ?_
  refine A4 (fun ht11=>?_) (fun ht11=>?_)
  ·refine Z1 ?_;refine Z4 ?_;refine Z48 ?_;exact A9 (Ao A8) ⟨by rw [AAk hx hx6 ht11],rfl⟩
  refine im ?_;refine No ?_
  refine Bt (x+1) (o4 hx ht11) (by omega) (Dx rfl)
 have hx6:6≤x:=by simp at ht5;omega
 refine Th ?_;refine Z46 ?_;exact A9 (Ao A8) ⟨by rw [AAl hx hx6],rfl⟩

theorem AMm {L:List Tok} {Hp own:List AObj} {o i n:Nat} {x:AObj} (h1:o<Hp.length):U2 L (Hp++own) o (oid Hp.length n) i x=Hp.set o (pmO L i)++own.set n x:=by
 unfold U2 oid
 rw [Lh _ _ h1,X4,if_neg (by simp),E1,Qx]
theorem AFo {L:List Tok} {Hp:List AObj} {o i j n:Nat} (h:∀z∈Hp.set o (pmO L i),ObjLow n z):∀z∈Hp.set o (pmO L j),ObjLow n z:=by
 intro z hz
 rw [show Hp.set o (pmO L j)=(Hp.set o (pmO L i)).set o (pmO L j) by rw [C6]] at hz
 rcases Mm hz with hz|rfl
 ·exact h z hz
 exact Ez
theorem AUj (L:List Tok) (i o:Nat) (Hp:List AObj) (ho:Hp[o]? = some (pmO L i)) (hi:i<L.length) (hl:TokEnd L) (hll:L.length≤500000):CP 117 [.ptr o 0] Hp (Qt L i) (fun m j r H'=>r=Hs m∧H'=Hp.set o (pmO L j)) (W1 L o Hp):=by
 refine ⟨fun hX=>?_⟩
 have hol:=(Ad.1 ho).1
 have hne:oid Hp.length 2≠o:=by unfold oid;omega
 refine Ae [.cell 2 80] [0] Tryz.func117 Tryz.ntmps117 (fun d=>?_)
 refine Z64 ?_;refine AKt ?_;refine ky ?_;refine Z1 ?_;refine A7 Tryz.call151 (AUi (Af L i).text _) ?_;refine Pv (places:=#[(0,1),(1,1),(2,1),(3,1),(4,1)]) jU (fun w=>by simp) jZ ?_;refine Z9 ?_;refine A2 [0,2,3,4] ?_;refine Z43 ?_;refine Hg 2 1 1 ?_;refine Hg 2 2 2 ?_;refine Hg 2 3 6 ?_;refine Hg 2 4 6 ?_;refine Z0 ?_;refine Z38 ?_;refine Z55 ?_;refine A2 [0,2,4,18] ?_
 refine A4 (fun ht18=>?_) (fun ht18=>?_)
 ·have e:Qt L i=.bad 8 (Af L i).at_:=if_pos ht18
  exact ACn
 have e0:Qt L i=(Jm L (⟨If (Af L i).text,[],[],[],[]⟩:Mov) (i+1)).bind fun m j=>(Dl L [59] j).bind fun _ j=>.ok m j:=if_neg (by rw [ht18];simp)
 have hi1:i+1<L.length:=hl.step hi (by simp only [Ei,bne_eq_false_iff_eq] at ht18;rw [ht18.1];decide)
 refine Q4 ?_
 refine A5 (h:=Bd ho) (hr:=?_)
 refine Z12 ?_
 refine Cx jS ho ?_ ?_
 ·simp
 refine A2 [0,2,4] ?_
 rcases hR:Jm L (⟨If (Af L i).text,[],[],[],[]⟩:Mov) (i+1) with ⟨m1,k⟩|⟨e,a⟩
 rotate_left
 ·exact (Dk hX (by first|exact by rw [e0];rw [hR];rfl|exact hR)).elim
 have hk:=w8 hl hll (⟨If (Af L i).text,[],[],[],[]⟩:Mov) (i+1) ⟨Au _,Au _,Au _,Au _⟩ (by omega) hi1 _ _ hR
 refine Z2 ?_
 refine Hf (up':=Hp.set o (pmO L k)) (own':=[.cells 80 [A3 0,.nil,.nil,.nil,.nil],.cells 118 [.v (.int .i64 (Af L i).kind),.v (sv (Af L i).text),.v (.int .i64 ((Af L i).at_:Int))],mvO m1]) Tryz.call152 (((AUg L (⟨If (Af L i).text,[],[],[],[]⟩:Mov) (i+1) o (oid Hp.length 2) (Hp.set o (pmO L (i+1))++[.cells 80 [A3 0,.nil,.nil,.nil,.nil],.cells 118 [.v (.int .i64 (Af L i).kind),.v (sv (Af L i).text),.v (.int .i64 ((Af L i).at_:Int))],mvO (⟨If (Af L i).text,[],[],[],[]⟩:Mov)]) hne (by rw [Dm (by simpa using hol)];exact getset ho) (by unfold oid;rw [Dn (by simp)];simp) hi1 hl hll ⟨Au _,Au _,Au _,Au _⟩ (by omega)).ok hR).mono (fun r H' e=>⟨e.1,e.2.trans (by rw [show oid Hp.length 2=oid (Hp.set o (pmO L (i+1))).length 2 by simp];rw [AMm (by simpa using hol),C6];rfl)⟩)) (by simp) (fun h=>by simpa using AFo h) ?_
 refine A2 [0,2,4] ?_
 rcases hW:Dl L [59] k with ⟨u,j2⟩|⟨e,a⟩
 rotate_left
 ·exact (Dk hX (by first|exact by rw [e0];rw [hR];show (Dl L [59] k).bind _=_;rw [hW];rfl|exact hW)).elim
 refine Z2 ?_;refine Cr (x:=pmO L j2) Tryz.call153 (getset ho) (by simp) Ez ((so L [59] k o _ (Aj (getset ho)) hk.2.1 hll).ok hW) ?_
 rw [C6]
 refine A2 [2,4] ?_;refine Z2 ?_;refine Z40 ?_;exact A9 (Ao (B6 jA jS)) (hp:=⟨m1,j2,by rw [e0];rw [hR];show (Dl L [59] k).bind _=_;rw [hW];rfl,rfl,rfl⟩) (hlow:=mx)

/-- What mig.parser.moves comes to: the moves, or none and the fault. -/
def Sz (L:List Tok):List Mov×Int×Int:=match L7 L with
 | .ok l _=>(l,0,0)
 | .bad e a=>([],e,a)
abbrev jx (L:List Tok):AV:=.tup [Eh (Sz L).1,.agg [A3 (Sz L).2.1,A3 (Sz L).2.2]]
theorem AJ6 {fc:Func} {r0 crest:Code} (hf:Tryz.prog.funcs[114]? = some fc) (hb:fc.body=some (.seq r0 crest)) (d a b:Nat) (H:List AObj):AW Tryz.prog (d+1) crest ⟨8,A6 2 (.v .nilIface) (A6 3 (.v .nilIface) (Go.SX.argsF [.ptr a 0,.ptr b 0])),H,[],[],none⟩ (fun e s2=>(e=.normal∨e=.ret)∧s2.defs=[]∧s2.up=H):=by
 have e:=Tryz.func114.symm.trans hf
 injection e with e
 subst e
 injection hb with hb
 injection hb with h1 h2
 subst h2
 refine cv [0,1,2] (by simp only [go_sem,↓reduceIte,Nat.reduceEqDiff,Nat.reduceAdd]<;>rfl) ?_
 refine Z2 ?_;refine R.neqNil0 jU ?_;refine A2 [0,1,2,5] ?_
 refine A4 (fun ht5=>?_) (fun ht5=>?_)
 ·cases ht5
 refine Oa ?_;exact ⟨.inl rfl,rfl,rfl⟩

/-- Where the loop of moves stands. -/
structure MovAt (L:List Tok) (x:List Mov×Nat):Prop where
 lt:x.2<L.length
 le:x.1.length≤8
 at_:L7 L=P4 L (9-x.1.length) x.1 x.2
theorem AJ7 {L:List Tok} (hl:TokEnd L) (hll:L.length≤500000) {i:Nat} (hi:i<L.length) {m:Mov} {j:Nat} (h:Qt L i=.ok m j):i<j∧j<L.length:=by
 unfold Qt at h
 split at h
 ·cases h
 rename_i h0
 have hi1:i+1<L.length:=hl.step hi (by
  simp only [D7,not_or,S3,bne_eq_false_iff_eq] at h0
  rw [h0.1];decide)
 obtain ⟨m1,k,h1,h2⟩:=aw h
 obtain ⟨u,j2,h3,h4⟩:=aw h2
 injection h4 with h5 h6
 subst h6
 obtain ⟨a1,a2,_⟩:=w8 hl hll _ (i+1) ⟨Au _,Au _,Au _,Au _⟩ (by omega) hi1 _ _ h1
 obtain ⟨b1,b2⟩:=Hb hl a2 _ _ h3
 exact ⟨by omega,b2⟩
theorem Qu {L:List Tok} {l:List Mov} {i:Nat} (hl:l.length≤8):P4 L (9-l.length) l i=if (Af L i).kind != 0 then (if (l.length:Int)==8 then ff L i 3 else (Qt L i).bind fun m j=>P4 L (8-l.length) (l++[m]) j) else .ok l i:=by
 rw [show 9-l.length=(8-l.length)+1 by omega,P4]
theorem MovAt.out {L:List Tok} {x:List Mov×Nat} (h:MovAt L x) (hk:((Af L x.2).kind != 0)=false):L7 L=.ok x.1 x.2:=by
 rw [h.at_,Qu h.le,if_neg (by rw [hk];simp)]
theorem MovAt.long {L:List Tok} {x:List Mov×Nat} (h:MovAt L x) (hk:((Af L x.2).kind != 0)=true) (h8:((x.1.length:Int)==8)=true):L7 L=.bad 3 (Af L x.2).at_:=by
 rw [h.at_,Qu h.le,if_pos hk,if_pos h8];rfl
theorem MovAt.step {L:List Tok} {x:List Mov×Nat} (h:MovAt L x) (hk:((Af L x.2).kind != 0)=true) (h8:((x.1.length:Int)==8)=false):L7 L=(Qt L x.2).bind fun m j=>P4 L (8-x.1.length) (x.1++[m]) j:=by
 rw [h.at_,Qu h.le,if_pos hk,if_neg (by rw [h8];simp)]
theorem MovAt.bad {L:List Tok} {x:List Mov×Nat} (h:MovAt L x) (hk:((Af L x.2).kind != 0)=true) (h8:((x.1.length:Int)==8)=false) {e a:Int} (hM:Qt L x.2=.bad e a):L7 L=.bad e a:=by
 rw [h.step hk h8,hM];rfl
theorem MovAt.on {L:List Tok} (hl:TokEnd L) (hll:L.length≤500000) {x:List Mov×Nat} (h:MovAt L x) (hk:((Af L x.2).kind != 0)=true) (h8:((x.1.length:Int)==8)=false) {m:Mov} {j:Nat} (hM:Qt L x.2=.ok m j):MovAt L (x.1++[m],j)∧x.2<j:=by
 obtain ⟨a1,a2⟩:=AJ7 hl hll h.lt hM
 have h1:x.1.length≤7:=by
  have:=h.le
  simp only [beq_eq_false_iff_ne,ne_eq] at h8
  omega
 refine ⟨⟨a2,by show (x.1++[m]).length≤8;simp;omega,?_⟩,a1⟩
 rw [h.step hk h8,hM]
 show P4 L (8-x.1.length) (x.1++[m]) j=P4 L (9-(x.1++[m]).length) (x.1++[m]) j
 rw [show 9-(x.1++[m]).length=8-x.1.length by rw [Ai,Kc];omega]
theorem AAm {L:List Tok} {l:List Mov} {i:Nat} (h:L7 L=.ok l i):jx L=.tup [Eh l,.agg [A3 0,A3 0]]:=by unfold jx Sz;rw [h]
theorem AJ8 {fn fc:Func} {x0 r1 y r0 crest:Code} (hf:Tryz.prog.funcs[67]? = some fn) (hb:fn.body=some (.seq x0 (.seq r1 y))) (hf2:Tryz.prog.funcs[114]? = some fc) (hb2:fc.body=some (.seq r0 crest)) (L:List Tok) (o:Nat) (Hp:List AObj) (ho:Hp[o]? = some (pmO L 0)) (hl:TokEnd L) (hll:L.length≤500000) (hX:∃l i,L7 L=.ok l i) (d:Nat):
  AW Tryz.prog (d+1) y ⟨21,A6 0 (.ptr o 0) (A6 2 (.ptr (oid Hp.length 0) 0) (A6 3 (.ptr (oid Hp.length 1) 0) (A6 4 (.fn (.func 114) [] [.ptr (oid Hp.length 0) 0,.ptr (oid Hp.length 1) 0]) fun _=>.any))),Hp,[.cells 31 [.nil],.cells 73 [A3 0,A3 0]],[],none⟩ (KG Tryz.prog crest 8 3 2 [.ptr (oid Hp.length 0) 0,.ptr (oid Hp.length 1) 0] [.cell 2 31,.cell 3 73] Hp.length (fun r H'=>r=jx L∧∃i,H'=Hp.set o (pmO L i))):=by
 have e:=Tryz.func67.symm.trans hf
 injection e with e
 subst e
 injection hb with hb
 injection hb with h1 h2
 injection h2 with h2 h3
 subst h3
 refine cv [0,2,3] (by simp only [go_sem,↓reduceIte,Nat.reduceEqDiff,Nat.reduceAdd]<;>rfl) ?_
 refine Sx (Cm ho).symm ?_;refine L0 ?_
 refine Bi (α:=List Mov×Nat) (fun x=>⟨21,A6 0 (.ptr o 0) (A6 2 (.ptr (oid Hp.length 0) 0) (A6 3 (.ptr (oid Hp.length 1) 0) (fun _=>.any))),Hp.set o (pmO L x.2),[.cells 31 [.slice true 5 (x.1.map Hs)],.cells 73 [A3 0,A3 0]],[],none⟩) (fun x=>MovAt L x) (fun x=>L.length-x.2) (([],0)) ⟨hl.pos,by decide,rfl⟩ (StLe.nilCell (own:=[.cells 31 [.nil],.cells 73 [A3 0,A3 0]]) (n:=0) (j0:=0) (k:=5) (t:=31) (cs:=[.nil]) rfl rfl) rfl (fun x hx=>?_)
 refine Z33 ?_;refine A7 Tryz.call115 (AMi L x.2 o _ (Aj (getset ho)) hx.lt) ?_;refine Z0 ?_;refine A2 [0,2,3,8] ?_
 refine A4 (fun ht8=>?_) (fun ht8=>?_)
 ·have hk:((Af L x.2).kind != 0)=true:=ht8
  refine ACd ?_;refine Z29 ?_;refine A2 [0,2,3,11] ?_
  refine A4 (fun ht11=>?_) (fun ht11=>?_)
  ·have h8:((x.1.length:Int)==8)=true:=by rw [Ah] at ht11;exact ht11
   exact (Dk hX (hx.long hk h8)).elim
  have h8:((x.1.length:Int)==8)=false:=by rw [Ah] at ht11;exact ht11
  refine Z3 ?_
  rcases hM:Qt L x.2 with ⟨m,j⟩|⟨e,a⟩
  rotate_left
  ·exact (Dk hX (by first|exact hx.bad hk h8 hM|exact hM)).elim
  have hon:=hx.on hl hll hk h8 hM
  refine Se [0,0,2,6,15,31] [0,2] [.s [14] (some 0) [] [],.q 1 [] [1],.s [16] (some 1) [] [],.q 1 [1] []] (fun B=>Hp.set o (pmO L (if B 1=true then j else x.2))) (fun B=>if B 0=true then [.cells 31 [.slice false 5 (x.1.map Hs)],.cells 73 [A3 0,A3 0]] else [.cells 31 [.slice true 5 (x.1.map Hs)],.cells 73 [A3 0,A3 0]]) An (by kernel_rfl) rfl rfl (fun B=>by simp) ?_
  refine Y.loadOwnT (u:=Hp.length) (n:=0) (t':=31) (cs:=[.slice true 5 (x.1.map Hs)]) (cs':=[.slice false 5 (x.1.map Hs)]) Tryz.isAgg31 (fun B hB=>⟨by simp,by simp only [hB];rfl,by simp only [hB];rfl,rfl⟩) ?_
  apply Y.q
  ·intro B hT hF
   exact Z56
  case hTF=>decide
  refine Og (r:=Hs m) (o:=o) (x0:=pmO L x.2) (x:=pmO L j) Tryz.call117 (fun B hB1 hB2 hB=>⟨by simp only [hB];exact getset ho,by simp only [hB];exact (C6 ..).symm,rfl,Ez,?_⟩) ?_
  ·simp only [hB]
   exact ((AUj L x.2 o _ (Aj (getset ho)) hx.lt hl hll).ok hM)
  apply Y.q
  ·intro B hT hF
   exact Z39
  case hTF=>decide
  refine Ej (tn:=[0,2]) (U:=Hp.set o (pmO L j)) (O:=[.cells 31 [.slice false 5 (x.1.map Hs)],.cells 73 [A3 0,A3 0]]) ?_
  refine E6 jU Tryz.type80 ?_ ?_ ?_
  ·simp [Tryz.t80];have:=hx.le;omega
  ·simp [Tryz.t80];have:=hx.le;omega
  refine Y1 jS ?_;refine A2 [0,2,3] ?_;refine N9 ?_
  refine Bt (x.1++[m],j) hon.1 (by have:=hx.lt;have:=hon.2;show L.length-j<L.length-x.2;omega) (Dx (by simp [Bj,show Tryz.t80.size=5 from rfl]))
 have hk:((Af L x.2).kind != 0)=false:=ht8
 have e:=hx.out hk
 refine Th ?_;refine Z2 ?_;refine Z22 ?_;refine Hh ?_;refine Z62 ?_;exact KG.fin .ret (B1 (Dw Tryz.isAgg31) (B6 Tryz.isAgg73 Tryz.sizeOf73)) (fun d=>AJ6 hf2 hb2 d _ _ _) ⟨(AAm e).symm,x.2,rfl⟩ (hlow:=by simpa using (Gv (n:=Hp.length) (k:=5) (o:=false) (l:=x.1)))

theorem c67 (L:List Tok) (o:Nat) (Hp:List AObj) (ho:Hp[o]? = some (pmO L 0)) (hl:TokEnd L) (hll:L.length≤500000) (hX:∃l i,L7 L=.ok l i):ACall Tryz.prog 67 [.ptr o 0] Hp (fun r H'=>r=jx L∧∃i,H'=Hp.set o (pmO L i)):=by
 refine ACall.guarded (n:=21) (nc:=8) (a:=3) (b:=2) (os:=[oid Hp.length 0,oid Hp.length 1]) (own0:=[.cells 31 [.nil],.cells 73 [A3 0,A3 0]]) (rs:=[.cell 2 31,.cell 3 73])
  (fr0:=A6 0 (.ptr o 0) (A6 2 (.ptr (oid Hp.length 0) 0) (A6 3 (.ptr (oid Hp.length 1) 0) fun _=>.any))) (fr1:=A6 0 (.ptr o 0) (A6 2 (.ptr (oid Hp.length 0) 0) (A6 3 (.ptr (oid Hp.length 1) 0) (A6 4 (.fn (.func 114) [] [.ptr (oid Hp.length 0) 0,.ptr (oid Hp.length 1) 0]) fun _=>.any))))
  Tryz.func67 rfl rfl Tryz.ntmps67 (by simp) Tryz.func114 rfl Tryz.ntmps114 rfl (by simp) (by decide) (by decide) Tryz.call114 (fun d=>?_) (fun d=>?_) rfl (fun d l=>?_)
 ·refine cv [0] (by simp only [go_sem,↓reduceIte,Nat.reduceEqDiff,Nat.reduceAdd]<;>rfl) ?_
  refine Ih ?_;refine Rj ?_;refine Rj ?_;refine A2 [0,2,3] ?_;exact ⟨rfl,rfl⟩
 ·refine J9 ?_;refine A2 [0,2,3,4] ?_
  rfl
 exact @AJ8 { b:=ErrAt.b,bs:=ErrAt.bs,bd:=d+1,bl:=l } _ _ _ _ _ _ _ Tryz.func67 rfl Tryz.func114 rfl L o Hp ho hl hll hX d
theorem AMn {s:Str} (h:((Bs s).2.1 != 0)=false):au s=Sz (Bs s).1:=by
 unfold au Sz
 rw [if_neg (by rw [h];simp)]
 cases L7 (Bs s).1<;>rfl
theorem c29 (s:Str) (hs:s.length≤1048576) (hz0:(Bs s).2.1=0) (hX:∃l i,L7 (Bs s).1=.ok l i) (Hp:List AObj):AFun Tryz.prog 29 [Ac s] Hp (.tup [Eh (au s).1,.agg [A3 (au s).2.1,A3 (au s).2.2]]):=by
 refine Ae [.tmp 2,.cell 3 73] [0] Tryz.func29 Tryz.ntmps29 (fun d=>?_)
 refine ACc ?_;refine No ?_;refine Z2 ?_;refine A7 Tryz.call66 (c66 s hs _) ?_;refine Z12 ?_;refine AGf ?_;refine A2 [3,4,5] ?_;refine Z29 ?_;refine A2 [3,4,5,13] ?_
 refine A4 (fun ht13=>?_) (fun ht13=>?_)
 ·rw [hz0] at ht13;cases ht13
 have hz:(Bs s).2.1=0:=by simpa using ht13
 have hle:=un hz
 have hlen:=v0 hz
 have e:=AMn ht13
 refine Z3 ?_;refine Z95 ?_;refine R.box ?_
 refine R.callEx (fun _=>Hp) (fun i=>[.cells 73 [A3 0,A3 0],.cells 73 [A3 (Bs s).2.1,A3 ((Bs s).2.2:Nat)],pmO (Bs s).1 i]) Tryz.call67 ((c67 (Bs s).1 (oid Hp.length 2) _ (by rw [Ar];rfl) hle (by omega) hX).mono (fun r H' ⟨e,i,h⟩=>⟨e,i,h.trans (by rw [Cp];rfl)⟩)) (fun _=>rfl) (fun _ h=>h) (fun i=>?_)
 refine Z12 ?_;refine Hh ?_;refine Z62 ?_;exact A9 (B1 A8 (B6 jA jS)) ⟨by rw [e],rfl⟩ (hlow:=by simpa using (Gv (n:=Hp.length) (k:=5) (o:=false) (l:=(Sz (Bs s).1).1)))

/-- Moves whose numbers are ones of 64 bits. -/
structure RngMv (m:Mov):Prop where
 ahead:∀e∈m.ahead,Dy Ge e=true
 back:∀e∈m.back,Dy Ge e=true
theorem o5 {l:List Expr} (h20:l.length≤1048576) (h:l.any Qf=false) (hr:∀e∈l,Dy Ge e=true):OkEs l:=by
 have h1:∀e∈l,Slim e:=fun e he=>ui (by
  rw [Iz] at h
  simpa using h e he)
 exact ⟨h20,fun e he=>(h1 e he).ok,fun e he=>by have:=(h1 e he).size;omega,hr⟩
theorem AAn {m:Mov} (h:Me m=false) (hr:RngMv m):OkMov m:=by
 unfold Me at h
 simp only [Ei,decide_eq_false_iff_not] at h
 obtain ⟨⟨⟨⟨⟨⟨h1,h2⟩,h3⟩,h4⟩,h5⟩,h6⟩,h7⟩:=h
 have h50:m.give.length≤1000000:=by
  unfold Mu at h1
  simp only [Ei,decide_eq_false_iff_not] at h1
  omega
 refine ⟨by omega,fun s hs=>?_,uw h1,h50,o5 (by omega) h6 hr.ahead,o5 (by omega) h7 hr.back⟩
 rw [Iz] at h5
 have:=h5 s hs
 simp only [decide_eq_true_eq] at this
 omega
theorem fj {l:List Mov} (h:Jh l=false) (hr:∀m∈l,RngMv m):OkMovs l:=by
 unfold Jh at h
 simp only [Ei,decide_eq_false_iff_not] at h
 refine ⟨by omega,fun m hm=>AAn ?_ (hr m hm)⟩
 rw [Iz] at h
 simpa using h.2 m hm
def rwS:Str:=[114,101,110,97,109,101,32,97,32,116,111,32,98,59]
def rwT:Str:=[115,101,108,101,99,116,32,98,32,119,104,101,114,101,32,98,32,62,32,49,59]
def rwC:List Col:=[⟨[97],1⟩]
def rwQ:Qry:=⟨false,[[98]],Ml [62] (D6 [98]) (On ⟨1,1,[]⟩), -1⟩
theorem AFp:Nk rwT=(rwQ,0,0):=by kernel_rfl
theorem AJ9:(au rwS).2.1=0:=by kernel_rfl
theorem AR0:QW rwQ:=by
 obtain ⟨h1,h2⟩:=Vp (show Ga rwQ.whr=true by kernel_rfl)
 exact ⟨I1 (by decide) h1,by omega,by kernel_rfl,by decide,by decide⟩
theorem AMo {l:List Mov} (h:(l.all fun m=>m.ahead.all (fun e=>Dy Ge e)&&m.back.all (fun e=>Dy Ge e))=true):∀m∈l,RngMv m:=fun m hm=>by
 have:=B5.1 h m hm
 rw [As] at this
 exact ⟨fun e he=>B5.1 this.1 e he,fun e he=>B5.1 this.2 e he⟩
theorem AR1:OkMovs (au rwS).1:=fj (by kernel_rfl) (AMo (by kernel_rfl))
theorem AUk:OkCols rwC:=⟨by simp [rwC],fun y hy=>by rw [B9.1 hy];simp⟩
theorem AUl:(Ie rwQ rwC (au rwS).1).2=0:=by kernel_rfl
theorem AR2:(Ie rwQ rwC (au rwS).1).1.trees=[D6 [97]]:=by kernel_rfl
theorem AUm:(Ie rwQ rwC (au rwS).1).1.lim = -1:=by kernel_rfl
theorem AMp (Hp:List AObj):AFun Tryz.prog 30 [Ac rwT] Hp (.tup [Rl rwQ,.agg [A3 0,A3 0]]):=by
 have:=c6 rwT (by decide) Hp
 rw [AFp] at this
 exact this
theorem AFq {c:List Col} (h:Mu c=false):c.length≤1000000:=by
 unfold Mu at h
 simp only [Ei,decide_eq_false_iff_not] at h
 omega
theorem c7 (Hp:List AObj):AFun Tryz.prog 7 [] Hp (B4 true):=by
 refine Ae [.tmp 0] [] Tryz.func7 Tryz.ntmps7 (fun d=>?_)
 refine Z2 ?_;refine Mk ?_;refine F0 ?_;refine A7 Tryz.call29 (c29 rwS (by decide) (by kernel_rfl) (AQw (by kernel_rfl)) _) ?_;refine Z12 ?_;refine AGf ?_;refine A2 [1,2] ?_;refine F0 ?_;refine A7 Tryz.call30 (AMp _) ?_;refine Z12 ?_;refine Rj ?_;refine Z9 ?_;refine Hh ?_;refine A2 [1,2,3,4] ?_;refine Z95 ?_;refine ia jU jS jZ ?_;refine A5 ?_;refine A7 Tryz.call11 (c11 rwQ AR0 rwC AUk (by decide) (au rwS).1 AR1 _) ?_;refine Rf ?_;refine A2 [2,4,5,6] ?_;refine Z23 ?_;refine Z77 ?_;refine Z38 ?_;refine Z86 ?_;refine Z38 ?_
 refine Cw (h:=Ag (0) (Aa (D6 [97])) (fun _=>by rw [AR2];rfl)) (hr:=?_)
 refine Z77 ?_;refine il ?_;refine Z0 ?_;refine A2 [0] ?_;refine Fc ?_;exact A9 (Ao A8) ⟨by simp only [AJ9,AUl,AR2,AUm]<;>rfl,rfl⟩

theorem c20 (c:List Col) (hc:OkCols c) (hc2:c.length≤1000000) (l:List Mov) (h:OkMovs l) (row:List Val) (hrr:∀v∈row, -9223372036854775808≤v.n∧v.n≤9223372036854775807) (hrl:row.length≤1048576) (Hp:List AObj):AFun Tryz.prog 20 [Am c,Eh l,Ce row] Hp (.tup [Ce (Ek c l row).1,A3 (Ek c l row).2]):=by
 refine Ae [.tmp 6,.tmp 7] [0,1,2] Tryz.func20 Tryz.ntmps20 (fun d=>?_)
 refine Z1 ?_;refine Y8 ?_;refine ABv ?_;refine Z59 ?_;refine A2 [0,1,2,8,9] ?_;refine Z29 ?_;refine Z6 ?_;refine Ca Tryz.call47 (fun hB=>c47 c hc row hrl _) ?_;refine Z55 ?_;refine A2 [1,2,8,26] ?_
 refine A4 (fun ht26=>?_) (fun ht26=>?_)
 ·have hm:Ek c l row=([],1):=if_pos ht26
  refine Z2 ?_;refine M7 6 3 false ?_;refine Z96 ?_;exact Z31
 have hm0:Ek c l row=fwM c l row l.length:=if_neg (by rw [ht26];simp)
 have h26:((Bn c l).2 != 0)=false∧Ew c row=true:=by simpa using ht26
 obtain ⟨hmay,hst,hss⟩:=Ee h26.1
 have hR0:=O2 h26.2 hrr
 have hmvo:=H1 hmay
 have hlen:=h.len
 rw [hss]
 refine Oi ?_;refine A7 Tryz.call48 (c48 row hrl _) ?_;refine A5 ?_;refine A2 [1,8,10] ?_;refine Z29 ?_;refine A2 [8,10,29,30,31] ?_
 refine Bi (α:=Nat) (fun x=>⟨51,A6 8 (Gq (Cd c l l.length)) (A6 10 (Ce (fwM c l row x).1) (A6 29 (Eh l) (A6 30 (A3 (l.length:Nat)) (A6 31 (A3 (x:Nat)) (fun _=>.any))))),Hp,[],[],none⟩) (fun x=>x≤l.length∧(fwM c l row x).2=0∧RowI (colsAt c l x) (fwM c l row x).1) (fun x=>l.length-x) (0) ⟨Au _,rfl,hR0⟩ (Bo (by simp [fwM])) rfl (fun x hx=>?_)
 refine Z2 ?_;refine A2 [8,10,29,30,31,32] ?_
 refine Ck (fun ht32=>?_) (fun ht32=>?_)
 ·have hlt:x<l.length:=by simpa using ht32
  obtain ⟨hxl,hfx,hR⟩:=hx
  obtain ⟨m,hm⟩:∃m,m=l[x]:=⟨_,rfl⟩
  have hml:l[x]? = some m:=by rw [hm];exact Ab hlt
  have hmx:(l.map Hs)[x]? = some (Hs m):=by rw [hm];exact B7 hlt
  have hmo:=h.each m (Aw hml)
  have hmv:=hmvo m (Aw hml)
  have hCx:=E4 hc (fun m hm=>h.each m hm) x
  have htn:=Lm hst hml
  refine Rh ?_
  refine A5 (h:=Ag (x) (Hs m) (fun _=>hmx)) (hr:=?_)
  refine l7 ?_;refine A2 [8,10,11,12,29,30,31] ?_;refine Ea [0,0,3,7,0,0,63,127,255,255,511,2047] 11 An (by kernel_rfl) ?_;refine Z8 ?_
  refine Aq (h:=Ag (x) (Am (colsAt c l x)) (fun _=>ck (Gw (by omega)))) (hr:=?_)
  refine Z35 ?_;refine Du Tryz.call49 (c49 (colsAt c l x) hCx m hmo (fwM c l row x).1 hR.fine hR.len _) ?_;refine Z8 ?_;refine Z89 ?_;refine A5 ?_;refine A2 [8,9,10,29,30,31] ?_;refine Z1 ?_;refine A2 [8,9,10,29,30,31,47] ?_
  refine A4 (fun ht47=>?_) (fun ht47=>?_)
  ·have hm2:Ek c l row=([],(Ef (colsAt c l x) m (fwM c l row x).1).2):=by rw [hm0];exact AIo hml hfx (by simpa using ht47)
   refine Z1 ?_;refine M7 6 3 false ?_;refine Z96 ?_;refine Z48 ?_;exact A9 (B1 A8 A8) ⟨by rw [hm2]<;>rfl,rfl⟩
  have hnx:=U8 hml hfx
  have hok:(Ef (colsAt c l x) m (fwM c l row x).1).2=0:=by simpa using ht47
  have hRn:=Vs htn hmv (fun e he=>hmo.ahead.rng e he) hR hok
  refine Z70 ?_;refine A2 [8,10,29,30,31] ?_
  refine Bt (x+1) ⟨hlt,by rw [hnx];exact hok,by rw [hnx,Eu hml];exact hRn⟩ (by omega) ?_
  rw [hnx]
  exact D0 (own:=[]) (fun _=>.refl _) (by repeat (first|exact Bb|refine Ba (by first|exact Co|exact F9|exact Lv|exact Gv|exact D5|exact Ft|exact Low.ro _ Ji|(simp [or_imp,forall_and];done)) ?_)) (by simp) (by simp)
 have hxe:x=l.length:=by simp at ht32;have:=hx.1;omega
 subst hxe
 have hm1:Ek c l row=((fwM c l row l.length).1,0):=by rw [hm0];exact Mq rfl hx.2.1
 refine Z27 ?_;refine Z15 ?_;refine Z16 ?_;exact A9 (B1 A8 A8) ⟨by rw [hm1],rfl⟩ (hlow:=by simpa using (F9 (n:=Hp.length) (k:=3) (o:=false) (l:=(fwM c l row l.length).1)))

theorem az {n k:Nat} {o:Bool} {l:List Val}:∀z∈[AV.slice o k (l.map Bq)],Low n z:=fun z hz=>by rw [B9.1 hz];exact F9
/-- Where the way back stands behind k moves. -/
structure BkAt (c:List Col) (l:List Mov) (row:List Val) (k:Nat):Prop where
 ok:(bkM c l row k).2=0
 row:RowI (colsAt c l (l.length-k)) (bkM c l row k).1
theorem BkAt.zero {c:List Col} {l:List Mov} {row:List Val} (h:RowI (colsAt c l l.length) row):BkAt c l row 0:=⟨rfl,h⟩
theorem BkAt.fin {c:List Col} {l:List Mov} {row:List Val} (h:BkAt c l row l.length):bkM c l row l.length=((bkM c l row l.length).1,0):=Mq rfl h.ok
theorem BkAt.next {c:List Col} {l:List Mov} {row:List Val} {k:Nat} {m:Mov} (h:BkAt c l row k) (hk:k<l.length) (hm:l[l.length-1-k]? = some m) (hg:∀e∈m.back,Dy Ge e=true) (he:(D4 (colsAt c l (l.length-1-k)) (colsAt c l (l.length-1-k+1)) m (bkM c l row k).1).2=0):BkAt c l row (k+1):=by
 have e:=U9 hm h.ok
 have hr:=h.row
 rw [show l.length-k=l.length-1-k+1 by omega] at hr
 refine ⟨by rw [e];exact he,?_⟩
 rw [e,show l.length-(k+1)=l.length-1-k by omega]
 exact AF8 hg hr he
theorem Vw {c:List Col} {l:List Mov} {row:List Val} (h:(((Bn c l).2 != 0) || !Ew (colsAt c l l.length) row)=false):Iv c l row=bkM c l row l.length:=if_neg (by rw [h];simp)
theorem AR3 {U:List AObj} {l a b c e:Nat} {x y X Y Z T:AObj} (h:U[l]? = some x) (ha:a≠l) (hb:b≠l) (hc:c≠l) (he:e≠l):(((((U.set l y).set a X).set b Y).set c Z).set e T)[l]? = some y:=by rw [Bk he];exact AN2 h ha hb hc
theorem AAo (c:List Col) (l:List Mov):(Bn c l).1.length≤l.length+1:=by
 unfold Bn K9
 repeat' split
 all_goals first|exact Au _|exact Sr c l
theorem fk {c:List Col} {l:List Mov} (h:((Bn c l).2 != 0)=false):((Bn c l).1.map Am)[l.length]? = some (Am (colsAt c l l.length))∧((((Bn c l).1.map Am).length:Nat):Int)-1=((l.length:Nat):Int):=by
 obtain ⟨_,_,hss⟩:=Ee h
 rw [hss]
 refine ⟨ck (Gw (Al _)),?_⟩
 rw [Ah,I6]
 omega
theorem AUn (l:List Mov) (Hp:List AObj):AFun Tryz.prog 111 [Eh l] Hp (.fn (.func 129) [] [.ro [Eh l]]):=by
 refine Ae [.tmp 2] [0] Tryz.func111 Tryz.ntmps111 (fun d=>?_)
 refine qb ?_;refine A7 Tryz.call81 (c81 l _) ?_;refine A5 ?_;exact AN8

theorem c64 (c:List Col) (hc:OkCols c) (hc2:c.length≤1000000) (l:List Mov) (h:OkMovs l) (row:List Val) (hrr:∀v∈row, -9223372036854775808≤v.n∧v.n≤9223372036854775807) (hrl:row.length≤1048576) (Hp:List AObj):AFun Tryz.prog 64 [Am c,Eh l,Ce row] Hp (.tup [Ce (Iv c l row).1,A3 (Iv c l row).2]):=by
 refine Ae [.cell 6 54,.cell 7 38] [0,1,2] Tryz.func64 Tryz.ntmps64 (fun d=>?_)
 refine xk ?_;refine A2 [0,1,2,6,7] ?_;refine ABv ?_;refine Z12 ?_;refine Rj ?_;refine Z9 ?_;refine Hh ?_;refine A2 [1,2,6,7,8,9] ?_;refine Z43 ?_
 have hlen:=h.len
 have hsl:((Bn c l).1.map Am).length≤2000000:=by rw [Ah];have:=AAo c l;omega
 have hcn:=E4 hc (fun m hm=>h.each m hm) l.length
 refine Z12 ?_;refine Q5 ?_
 refine Cw (h:=Ag (l.length) (Am (colsAt c l l.length)) (fun hB=>(fk (by simpa using hB)).1) (hn:=fun hB=>(fk (by simpa using hB)).2)) (hr:=?_)
 refine Z6 ?_;refine Ca Tryz.call47 (fun hB=>c47 (colsAt c l l.length) hcn row hrl _) ?_;refine Z55 ?_;refine A2 [1,2,6,7,8,9,31] ?_
 refine A4 (fun ht31=>?_) (fun ht31=>?_)
 ·have hm:Iv c l row=([],1):=if_pos ht31
  refine xe ?_;refine L1 0 3 ?_;refine pu ?_;exact AKg
 have hm:=Vw ht31
 have h31:((Bn c l).2 != 0)=false∧Ew (colsAt c l l.length) row=true:=by simpa using ht31
 obtain ⟨hmay,hst,hss⟩:=Ee h31.1
 have hmvo:=H1 hmay
 have hlen:=h.len
 have hR0:=O2 h31.2 hrr
 have hol:((Cd c l l.length).map Am).length=l.length+1:=by rw [Ah,I6]
 rw [hss]
 refine Oi ?_;refine A7 Tryz.call48 (c48 row hrl _) ?_;refine Z9 ?_;refine A2 [1,6,7,8,9,10] ?_;refine Z43 ?_
 refine Jx (fun hlow=>?_)
 refine A5 ?_;refine A7 Tryz.call111 (AUn l _) ?_;refine A2 [6,7,8,9,10,35] ?_;refine K1 ?_
 refine L2 (m:=5) Tryz.call129 (fun FR as' bd' hFR has hbd=>?_)
 have hFRl:∀s,Low (Hp.length+7) (FR s):=by
  intro s
  rw [hFR]
  refine Lz ?_
  revert s
  repeat (first|exact Bb|refine Ba (by first|(simp [oid,or_imp,forall_and];done)|exact Gv|exact D5|exact F9|(simp [oid,or_imp,forall_and];exact ⟨fun m _ a _=>Ak _ a,fun m _ a _=>Ak _ a⟩)|(simp [oid,or_imp,forall_and]<;>omega)) ?_)
 have hOl:∀{e e2:Int} {t:List Val} {lp:AObj},ObjLow (Hp.length+7) lp→∀x∈Hp++[AObj.cells 54 [AV.nil],AObj.cells 38 [A3 e],AObj.cells 41 [Gq (Cd c l l.length)],AObj.cells 38 [A3 e2],AObj.cells 54 [Ce (t)],AObj.defs,lp],ObjLow (Hp.length+7) x:=by
  intro e e2 t lp hlp x hx
  refine Id (fun x hx=>L3 (by omega) (hlow x hx)) (fun x hx=>?_) x hx
  simp only [B3,E5,or_false] at hx
  rcases hx with rfl|rfl|rfl|rfl|rfl|rfl|rfl
  ·intro y hy;rw [B9.1 hy];simp
  ·intro y hy;rw [B9.1 hy];simp
  ·intro y hy;rw [B9.1 hy];exact Ft
  ·intro y hy;rw [B9.1 hy];simp
  ·exact az
  ·trivial
  exact hlp
 refine ⟨_,AQ6 (oid Hp.length 6) l h.len (fun k=>Hp++[AObj.cells 54 [AV.nil],AObj.cells 38 [A3 0],AObj.cells 41 [Gq (Cd c l l.length)],AObj.cells 38 [A3 0],AObj.cells 54 [Ce ((bkM c l row k).1)],AObj.defs,AObj.loop LoopState.ready none FR 57 #[36,37] as' bd' (oid Hp.length 5)]) (BkAt c l row) (fun V=>(∃t,V=Hp++[AObj.cells 54 [AV.nil],AObj.cells 38 [A3 0],AObj.cells 41 [Gq (Cd c l l.length)],AObj.cells 38 [A3 0],AObj.cells 54 [Ce (t)],AObj.defs,AObj.loop LoopState.ready none FR 57 #[36,37] as' bd' (oid Hp.length 5)]∧Iv c l row=(t,0)∧RowI c t)∨(∃(e:Int) (t:List Val),V=Hp++[AObj.cells 54 [AV.nil],AObj.cells 38 [A3 e],AObj.cells 41 [Gq (Cd c l l.length)],AObj.cells 38 [A3 e],AObj.cells 54 [Ce (t)],AObj.defs,AObj.loop LoopState.done (some Code.ret) FR 57 #[36,37] as' bd' (oid Hp.length 5)]∧Iv c l row=([],e))) (fun k=>by simp) (by simp [oid]) (fun k=>(fun x hx=>by rw [Ai];exact hOl (lp:=AObj.loop LoopState.ready none FR 57 #[36,37] as' bd' (oid Hp.length 5)) (by exact ⟨hFRl,by simp [oid]⟩) x hx)) (.zero hR0) (fun k m X hk hm hN=>?_) (fun hN=>.inl ⟨_,rfl,by rw [Vw ht31];exact hN.fin,by have:=hN.row;rw [Qy] at this;exact this⟩),?_⟩
 ·generalize hV:Hp++[AObj.cells 54 [AV.nil],AObj.cells 38 [A3 0],AObj.cells 41 [Gq (Cd c l l.length)],AObj.cells 38 [A3 0],AObj.cells 54 [Ce ((bkM c l row k).1)],AObj.defs,AObj.loop LoopState.ready none FR 57 #[36,37] as' bd' (oid Hp.length 5)]++X=V
  have hL:V[oid Hp.length 6]? = some (AObj.loop LoopState.ready none FR 57 #[36,37] as' bd' (oid Hp.length 5)):=by rw [←hV,Ax,Ar];rfl
  have hA0:V[oid Hp.length 0]? = some (AObj.cells 54 [AV.nil]):=by rw [←hV,Ax,Ar];rfl
  have hB0:V[oid Hp.length 1]? = some (AObj.cells 38 [A3 0]):=by rw [←hV,Ax,Ar];rfl
  have hS0:V[oid Hp.length 2]? = some (AObj.cells 41 [Gq (Cd c l l.length)]):=by rw [←hV,Ax,Ar];rfl
  have hE0:V[oid Hp.length 3]? = some (AObj.cells 38 [A3 0]):=by rw [←hV,Ax,Ar];rfl
  have hZ0:V[oid Hp.length 4]? = some (AObj.cells 54 [Ce (bkM c l row k).1]):=by rw [←hV,Ax,Ar];rfl
  refine J8 (pd:=none) (fr:=FR) (sz:=57) (ps:=#[36,37]) (df:=oid Hp.length 5) (asg:=as') (bd:=bd') hL rfl (by decide) (fun d=>?_)
  subst hFR has hbd
  refine Fo [6,7,8,9,10,36,37] ?_
  have hmo:=h.each m (Aw hm)
  have hmv:=hmvo m (Aw hm)
  have htn:=Lm hst hm
  have hcn:=Eu (c:=c) hm
  have hCo:=E4 hc (fun m hm=>h.each m hm) (l.length-1-k+1)
  have hCi:=E4 hc (fun m hm=>h.each m hm) (l.length-1-k)
  have herr:=fun hb=>AIp (row:=row) hk hm hN.ok hb
  have hnxt:=hN.next hk hm (fun e he=>hmo.back.rng e he)
  have htb:=U9 hm hN.ok
  have htl:=hN.row
  rw [show l.length-k=l.length-1-k+1 by omega] at htl
  have hik:l.length-1-k<l.length:=by omega
  have hsy:∀y∈colsAt c l (l.length-1-k),¬0≤Jp y.name m.take→∃j:Nat,Ay y.name (colsAt c l (l.length-1-k+1))=j∧j<(colsAt c l (l.length-1-k+1)).length:=fun y hy hn=>by
   rw [hcn]
   exact AFa htn hy hn
  generalize l.length-1-k=i at *
  refine Z2 ?_;refine A2 [6,7,8,9,10,11,37] ?_;refine AC8 ?_;refine A2 [6,7,8,9,10,11,12] ?_
  refine ⟨rfl,none,hL,?_⟩
  generalize hbz:(AObj.loop LoopState.busy _ _ _ _ _ _ _)=bz
  have hA:(V.set (oid Hp.length 6) bz)[oid Hp.length 0]? = some (AObj.cells 54 [AV.nil]):=by rw [Bk (Bf (by decide))];exact hA0
  have hB:(V.set (oid Hp.length 6) bz)[oid Hp.length 1]? = some (AObj.cells 38 [A3 0]):=by rw [Bk (Bf (by decide))];exact hB0
  have hS:(V.set (oid Hp.length 6) bz)[oid Hp.length 2]? = some (AObj.cells 41 [Gq (Cd c l l.length)]):=by rw [Bk (Bf (by decide))];exact hS0
  have hE:(V.set (oid Hp.length 6) bz)[oid Hp.length 3]? = some (AObj.cells 38 [A3 0]):=by rw [Bk (Bf (by decide))];exact hE0
  have hZ:(V.set (oid Hp.length 6) bz)[oid Hp.length 4]? = some (AObj.cells 54 [Ce (bkM c l row k).1]):=by rw [Bk (Bf (by decide))];exact hZ0
  refine K1 ?_
  refine Fd [0,0,3,7,0,0,32,112,240,0,0,2047,4095,8191,8191,16383,65535] [15] [.q 14 [] [0],.q 1 [] [],.s [] (some 0) [] []] (fun B=>if B 0=true then ((V.set (oid Hp.length 6) bz).set (oid Hp.length 4) (AObj.cells 54 [Ce (D4 (colsAt c l i) (colsAt c l (i+1)) m (bkM c l row k).1).1])) else (V.set (oid Hp.length 6) bz)) (fun _=>[AObj.cells 80 (Kt m)]) An (by kernel_rfl) rfl rfl (fun B=>by split<;>simp) ?_
  apply Y.q
  ·intro B hT hF
   first|simp only [hF 0 (tj 0),Bg,if_false]|skip
   refine Aq (h:=Bd hS) (hr:=?_)
   refine Aq ?_
   refine Aq (h:=Ag (i) (Am (colsAt c l i)) (fun _=>ck (Gw (by omega)))) (hr:=?_)
   refine Aq ?_
   refine Aq (h:=Bd hS) (hr:=?_)
   refine Z8 ?_
   refine Aq (h:=Ag ((i+1)) (Am (colsAt c l (i+1))) (fun _=>ck (Gw (by omega)))) (hr:=?_)
   refine Z8 ?_
   refine Aq (h:=Bd hZ) (hr:=?_)
   refine Du Tryz.call112 (AU5 (colsAt c l i) (colsAt c l (i+1)) hCi.len hCo m hmo (Fg (It hmv)).2 hsy (bkM c l row k).1 htl.fine htl.len _) ?_;exact Z72
  case hTF=>decide
  apply Y.q
  ·intro B hT hF
   first|simp only [hF 0 (tj 0),Bg,if_false]|skip
   exact Z56
  case hTF=>decide
  refine Y.storeUp (o:=oid Hp.length 4) (t':=54) (ys:=[Ce (D4 (colsAt c l i) (colsAt c l (i+1)) m (bkM c l row k).1).1]) (cs:=[Ce (bkM c l row k).1]) (cs':=[Ce (D4 (colsAt c l i) (colsAt c l (i+1)) m (bkM c l row k).1).1]) Tryz.sizeOf54 (fun B hB=>⟨by simp only [hB];exact hZ,by simp [upd,hB],rfl,az⟩) ?_
  refine Ej (tn:=[15]) (U:=((V.set (oid Hp.length 6) bz).set (oid Hp.length 4) (AObj.cells 54 [Ce (D4 (colsAt c l i) (colsAt c l (i+1)) m (bkM c l row k).1).1]))) ?_
  refine Cx jS (Zx hE (Bf (by decide))) ?_ ?_
  ·simp
  refine A2 [6,7,9] ?_;refine F0 ?_
  have hE2:(((V.set (oid Hp.length 6) bz).set (oid Hp.length 4) (AObj.cells 54 [Ce (D4 (colsAt c l i) (colsAt c l (i+1)) m (bkM c l row k).1).1])).set (oid Hp.length 3) (AObj.cells 38 [A3 (D4 (colsAt c l i) (colsAt c l (i+1)) m (bkM c l row k).1).2]))[oid Hp.length 3]? = some (AObj.cells 38 [A3 (D4 (colsAt c l i) (colsAt c l (i+1)) m (bkM c l row k).1).2]):=getset (Zx hE (Bf (by decide)))
  refine A5 (h:=Bd hE2) (hr:=?_)
  refine A5 ?_;refine A2 [6,7,9,54] ?_
  refine A4 (fun ht54=>?_) (fun ht54=>?_)
  ·have herr:=herr (by simpa using ht54)
   refine Fd [0,0,3] [1] [.q 1 [] [],.s [] (some 0) [] []] (fun B=>if B 0=true then ((((V.set (oid Hp.length 6) bz).set (oid Hp.length 4) (AObj.cells 54 [Ce (D4 (colsAt c l i) (colsAt c l (i+1)) m (bkM c l row k).1).1])).set (oid Hp.length 3) (AObj.cells 38 [A3 (D4 (colsAt c l i) (colsAt c l (i+1)) m (bkM c l row k).1).2])).set (oid Hp.length 0) (AObj.cells 54 [AV.nil])) else (((V.set (oid Hp.length 6) bz).set (oid Hp.length 4) (AObj.cells 54 [Ce (D4 (colsAt c l i) (colsAt c l (i+1)) m (bkM c l row k).1).1])).set (oid Hp.length 3) (AObj.cells 38 [A3 (D4 (colsAt c l i) (colsAt c l (i+1)) m (bkM c l row k).1).2]))) (fun _=>[AObj.cells 80 (Kt m)]) An (by kernel_rfl) rfl rfl (fun B=>by split<;>simp) ?_
   apply Y.q
   ·intro B hT hF
    refine Aq (h:=Bd (show (if B 0=true then ((((V.set (oid Hp.length 6) bz).set (oid Hp.length 4) (AObj.cells 54 [Ce (D4 (colsAt c l i) (colsAt c l (i+1)) m (bkM c l row k).1).1])).set (oid Hp.length 3) (AObj.cells 38 [A3 (D4 (colsAt c l i) (colsAt c l (i+1)) m (bkM c l row k).1).2])).set (oid Hp.length 0) (AObj.cells 54 [AV.nil])) else (((V.set (oid Hp.length 6) bz).set (oid Hp.length 4) (AObj.cells 54 [Ce (D4 (colsAt c l i) (colsAt c l (i+1)) m (bkM c l row k).1).1])).set (oid Hp.length 3) (AObj.cells 38 [A3 (D4 (colsAt c l i) (colsAt c l (i+1)) m (bkM c l row k).1).2])))[oid Hp.length 3]? = some (AObj.cells 38 [A3 (D4 (colsAt c l i) (colsAt c l (i+1)) m (bkM c l row k).1).2]) by split;exact Zx hE2 (Bf (by decide));exact hE2)) (hr:=?_)
    exact ix
   case hTF=>decide
   refine Y.storeUp (o:=oid Hp.length 0) (t':=54) (ys:=[.nil]) (cs:=[.nil]) (cs':=[.nil]) Tryz.sizeOf54 (fun B hB=>⟨by simp only [hB];exact Zx (Zx hA (Bf (by decide))) (Bf (by decide)),by simp [upd,hB],rfl,by simp⟩) ?_
   refine Ej (tn:=[1]) (U:=((((V.set (oid Hp.length 6) bz).set (oid Hp.length 4) (AObj.cells 54 [Ce (D4 (colsAt c l i) (colsAt c l (i+1)) m (bkM c l row k).1).1])).set (oid Hp.length 3) (AObj.cells 38 [A3 (D4 (colsAt c l i) (colsAt c l (i+1)) m (bkM c l row k).1).2])).set (oid Hp.length 0) (AObj.cells 54 [AV.nil]))) ?_
   refine Cx jS (Zx (Zx (Zx hB (Bf (by decide))) (Bf (by decide))) (Bf (by decide))) ?_ ?_
   ·simp
   refine Mk ?_;refine Fc ?_;refine K.blR ?_
   subst hbz
   refine K.rdR (AR3 hL (Bf (by decide)) (Bf (by decide)) (Bf (by decide)) (Bf (by decide))) ?_
   refine .inr ⟨rfl,Hp++[AObj.cells 54 [AV.nil],AObj.cells 38 [A3 (D4 (colsAt c l i) (colsAt c l (i+1)) m (bkM c l row k).1).2],AObj.cells 41 [Gq (Cd c l l.length)],AObj.cells 38 [A3 (D4 (colsAt c l i) (colsAt c l (i+1)) m (bkM c l row k).1).2],AObj.cells 54 [Ce ((D4 (colsAt c l i) (colsAt c l (i+1)) m (bkM c l row k).1).1)],AObj.defs,_],?_,by simp,(fun x hx=>by rw [Ai];exact hOl (lp:=_) (by exact ⟨hFRl,by simp [oid]⟩) x hx),.inr ⟨_,_,rfl,by rw [Vw ht31];exact herr⟩⟩
   subst hV
   simp only [Ax,Cp,Dh,D9,List.set_cons_succ,List.set_cons_zero]
  have hB1:=hnxt (by simpa using ht54)
  refine px ?_
  subst hbz
  refine xy ?_
  refine .inl ⟨rfl,hB1,?_⟩
  subst hV
  simp only [Ax,Cp,Dh,D9,List.set_cons_succ,List.set_cons_zero]
  rw [htb,show (D4 (colsAt c l i) (colsAt c l (i+1)) m (bkM c l row k).1).2=0 by simpa using ht54]
 rintro r H' (⟨t,rfl,hrun,_⟩|⟨e,t,rfl,hrun⟩)
 ·refine ⟨Hp,_,_,_,rfl,rfl,fun h=>h,?_,rfl,by simp,?_⟩
  ·intro o ho
   have:o=oid Hp.length 5:=by simpa using ho
   subst this
   rw [Ar]
   rfl
  refine xt ?_;refine pu ?_;exact A9 (B1 (Dw jA) (Dw jA)) ⟨by rw [hrun],rfl⟩ (hlow:=by simp only [Tc,B3,E5,or_false];rintro y (rfl|rfl);exact F9;simp)
 refine ⟨Hp,_,_,_,rfl,rfl,fun h=>h,?_,rfl,by simp,?_⟩
 ·intro o ho
  have:o=oid Hp.length 5:=by simpa using ho
  subst this
  rw [Ar]
  rfl
 refine Uz 0 3 ?_;exact ANo

theorem ss {c:List Col} {l:List Mov} {row:List Val} (h:OkMovs l) (h0:RowI (colsAt c l l.length) row):∀k,k≤l.length→(bkM c l row k).2=0→BkAt c l row k
 | 0,_,_=>.zero h0
 | k+1,hk,he=>by
  have h1:(bkM c l row k).2=0:=H3 fun hn=>by
   rw [js hn (k+1) (by omega)] at he
   exact hn he
  obtain ⟨m,hm⟩:∃m,l[l.length-1-k]? = some m:=⟨l[l.length-1-k],Ab (by omega)⟩
  refine (ss h h0 k (by omega) h1).next (by omega) hm (fun e he=>(h.each m (Aw hm)).back.rng e he) ?_
  rw [←U9 hm h1]
  exact he
theorem AAp {c:List Col} {l:List Mov} {row:List Val} (h:OkMovs l) (hrr:∀v∈row, -9223372036854775808≤v.n∧v.n≤9223372036854775807) (hb:(Iv c l row).2=0):RowI c (Iv c l row).1:=by
 unfold Iv at hb ⊢
 split at hb
 ·cases hb
 rename_i h1
 rw [if_neg h1]
 have h2:Ew (colsAt c l l.length) row=true:=by
  simp only [D7,Iy,not_or,Uo] at h1
  exact h1.2
 have:=(ss h (O2 h2 hrr) l.length (Al _) hb).row
 rw [Qy] at this
 exact this
theorem AMq {c:List Col} {l:List Mov} {row:List Val}:∀k,(bkM c l row k).2≠0→(bkM c l row k).1=[]
 | 0,h=>absurd rfl h
 | k+1,h=>by
  rw [bkM] at h ⊢
  split
  ·rfl
  rename_i h1
  rw [if_neg h1] at h
  split at h
  ·exact AL0
  exact et h
theorem AAq {c:List Col} (hc:OkCols c) {l:List Mov} {row:List Val} (h:OkMovs l) (hrr:∀v∈row, -9223372036854775808≤v.n∧v.n≤9223372036854775807):(Iv c l row).1.length≤1048576:=by
 by_cases hb:(Iv c l row).2=0
 ·rw [(AAp h hrr hb).len]
  exact hc.len
 unfold Iv at hb ⊢
 split
 ·exact qd
 rename_i h1
 rw [if_neg h1] at hb
 rw [AMq _ hb]
 exact qd
theorem b6 {c:List Col} {l:List Mov} {row:List Val} (h:OkMovs l) (hs:((Bn c l).2 != 0)=false) (h0:RowI c row):∀k,k≤l.length→(fwM c l row k).2=0→RowI (colsAt c l k) (fwM c l row k).1
 | 0,_,_=>h0
 | k+1,hk,he=>by
  obtain ⟨hmay,hst,_⟩:=Ee hs
  have h1:(fwM c l row k).2=0:=H3 fun hn=>by
   rw [aj hn (k+1) (by omega)] at he
   exact hn he
  obtain ⟨m,hm⟩:∃m,l[k]? = some m:=⟨l[k],Ab (by omega)⟩
  have hml:=Aw hm
  have e:=U8 hm h1
  rw [e,Eu hm]
  exact Vs (Lm hst hm) (H1 hmay m hml) (fun e he=>(h.each m hml).ahead.rng e he) (b6 h hs h0 k (by omega) h1) (by rw [←e];exact he)
theorem su {c:List Col} {l:List Mov} {row:List Val} (h:OkMovs l) (hrr:∀v∈row, -9223372036854775808≤v.n∧v.n≤9223372036854775807) (hb:(Ek c l row).2=0):RowI (colsAt c l l.length) (Ek c l row).1:=by
 unfold Ek at hb ⊢
 split at hb
 ·cases hb
 rename_i h1
 rw [if_neg h1]
 have h2:((Bn c l).2 != 0)=false∧Ew c row=true:=by
  simp only [D7,Iy,not_or,Uo,S3] at h1
  exact h1
 exact b6 h h2.1 (O2 h2.2 hrr) l.length (Al _) hb
theorem c28 (c:List Col) (hc:OkCols c) (hc2:c.length≤1000000) (l:List Mov) (h:OkMovs l) (row:List Val) (hrr:∀v∈row, -9223372036854775808≤v.n∧v.n≤9223372036854775807) (hrl:row.length≤1048576) (Hp:List AObj):AFun Tryz.prog 28 [Am c,Eh l,Ce row] Hp (B4 (P2 c l row)):=by
 refine Ae [.tmp 6] [0,1,2] Tryz.func28 Tryz.ntmps28 (fun d=>?_)
 refine Z2 ?_;refine Y8 ?_;refine Z15 ?_;refine A7 Tryz.call20 (c20 c hc hc2 l h row hrr hrl _) ?_;refine Z59 ?_;refine A2 [0,1,2,7,8] ?_;refine Z7 ?_;refine A2 [0,1,2,7,18] ?_
 refine A4 (fun ht18=>?_) (fun ht18=>?_)
 ·have hm:P2 c l row=false:=if_pos ht18
  refine Z2 ?_;refine pw ?_;exact lc
 have hm:P2 c l row=(((Iv c l (Ek c l row).1).2==0)&&decide ((Iv c l (Ek c l row).1).1=row)):=if_neg (by rw [ht18];simp)
 have hF:=su h hrr (by simpa using ht18:(Ek c l row).2=0)
 refine Q4 ?_
 refine A7 Tryz.call64 (c64 c hc hc2 l h (Ek c l row).1 (Ua hF.fine) (by rw [hF.len];exact (E4 hc (fun m hm=>h.each m hm) l.length).len) _) ?_
 refine Z59 ?_;refine A2 [2,8,9] ?_;refine bq ?_;refine Ca Tryz.call65 (fun hB=>c65 (Iv c l (Ek c l row).1).1 row (AAq hc h (Ua hF.fine)) _) ?_;refine Z0 ?_;refine Z75 ?_;exact lc
/-! ImageJoins: rows forth and back, move by move. -/
theorem fl {over:List Col}:∀{l:List Expr} {w:List Col},D8 over l w=0→∀(j:Nat) (x:Expr) (y:Col),l[j]? = some x→w[j]? = some y→Rk x over y.kind=0
 | [],_,_,j,x,y,h,_=>by simp at h
 | _::_,[],_,j,x,y,_,h=>by simp at h
 | a::l,b::w,h,j,x,y,h1,h2=>by
  rw [D8] at h
  by_cases h0:(Rk a over b.kind != 0)=true
  ·rw [if_pos h0] at h
   rw [h] at h0
   cases h0
  rw [if_neg h0] at h
  cases j with
  | zero =>
   have e1:a=x:=by simpa using h1
   have e2:b=y:=by simpa using h2
   rw [←e1,←e2]
   simpa using h0
  | succ j=>exact fl h j x y (by simpa using h1) (by simpa using h2)
theorem AJa {x:Expr} {c:List Col} {k:Int} {row:List Val} (h:Rk x c k=0) (hr:Ew c row=true) (he:(Bx x c row).2=0):(Bx x c row).1.kind=0∨(Bx x c row).1.kind=k:=by
 unfold Rk at h
 by_cases h1:((Gb x c).2 != 0)=true
 ·rw [if_pos h1] at h
  rw [h] at h1
  cases h1
 rw [if_neg h1] at h
 have h1:(Gb x c).2=0:=by simpa using h1
 by_cases h2:(!Rw x c k)=true
 ·rw [if_pos h2] at h
  cases h
 have h2:Rw x c k=true:=by simpa using h2
 unfold Rw at h2
 simp only [As,D7,beq_iff_eq] at h2
 have:=(AA0 h1 hr).kind he
 rcases h2.2 with h3|h3<;>omega
theorem sw {c:List Col} {m:Mov} (h:(Bp c m).2=0):D8 c m.ahead (By c m)=0∧D8 (Bp c m).1 m.back (Gp c m)=0:=by
 by_cases h1:((E2 c m.take (By c m)).2 != 0)=true
 ·rw [vg h1] at h
  rw [show (E2 c m.take (By c m)).2=0 from h] at h1
  cases h1
 have h1:((E2 c m.take (By c m)).2 != 0)=false:=by simpa using h1
 by_cases h2:(D8 c m.ahead (By c m) != 0)=true
 ·rw [vh h1 h2] at h
  rw [show D8 c m.ahead (By c m)=0 from h] at h2
  cases h2
 have h2:(D8 c m.ahead (By c m) != 0)=false:=by simpa using h2
 by_cases h3:(D8 (E2 c m.take (By c m)).1 m.back (Gp c m) != 0)=true
 ·rw [vi h1 h2 h3] at h
  rw [show D8 (E2 c m.take (By c m)).1 m.back (Gp c m)=0 from h] at h3
  cases h3
 have h3:(D8 (E2 c m.take (By c m)).1 m.back (Gp c m) != 0)=false:=by simpa using h3
 rw [vj h1 h2 h3]
 exact ⟨by simpa using h2,by simpa using h3⟩
theorem b7 {c:List Col} {row:List Val}:∀{l:List Expr},(B2 c row l).2=0→∀(j:Nat) (x:Expr),l[j]? = some x→(Bx x c row).2=0∧(B2 c row l).1[j]? = some (Bx x c row).1
 | [],_,j,x,h=>by simp at h
 | a::r,h,j,x,hx=>by
  rw [B2] at h ⊢
  by_cases h1:((Bx a c row).2 != 0)=true
  ·rw [if_pos h1] at h
   rw [show (Bx a c row).2=0 from h] at h1
   cases h1
  rw [if_neg h1] at h ⊢
  by_cases h2:((B2 c row r).2 != 0)=true
  ·rw [if_pos h2] at h
   rw [show (B2 c row r).2=0 from h] at h2
   cases h2
  rw [if_neg h2]
  cases j with
  | zero =>
   have e1:a=x:=by simpa using hx
   rw [←e1]
   exact ⟨by simpa using h1,rfl⟩
  | succ j=>exact b7 (l:=r) (by simpa using h2) j x (by simpa using hx)
theorem fm {take:List Str}:∀{c:List Col} {row:List Val},row.length=c.length→∀(i:Nat) (v:Val) (y:Col),(Fm take c row)[i]? = some v→(Dg c take)[i]? = some y→∃j:Nat,row[j]? = some v∧c[j]? = some y
 | [],[],_,i,v,y,h,_=>by simp [Fm] at h
 | a::c,b::row,hl,i,v,y,h1,h2=>by
  have hl2:row.length=c.length:=by simpa using hl
  unfold Fm at h1
  unfold Dg at h2
  rw [List.zip_cons_cons,Hz] at h1
  rw [Hz] at h2
  have ih:=fm (take:=take) hl2
  by_cases ht:(!take.contains a.name)=true
  ·rw [if_pos ht] at h1 h2
   cases i with
   | zero=>exact ⟨0,by simpa using h1,by simpa using h2⟩
   | succ i =>
    obtain ⟨j,e1,e2⟩:=ih i v y (by simpa [Fm] using h1) (by simpa [Dg] using h2)
    exact ⟨j+1,by simpa using e1,by simpa using e2⟩
  rw [if_neg ht] at h1 h2
  obtain ⟨j,e1,e2⟩:=ih i v y (by simpa [Fm] using h1) (by simpa [Dg] using h2)
  exact ⟨j+1,by simpa using e1,by simpa using e2⟩
 | [],_::_,hl,_,_,_,_,_=>by simp at hl
 | _::_,[],hl,_,_,_,_,_=>by simp at hl
theorem o6 {c:List Col} (h:Cs c=true):Jq c=true:=by
 unfold Cs at h
 simp only [As] at h
 exact h.2
/-- What comes forth is a row over the columns behind. -/
theorem sx {c:List Col} {m:Mov} {row:List Val} (ht:(Bp c m).2=0) (hm:I5 m=true) (hg:∀e∈m.ahead,Dy Ge e=true) (h:RowI c row) (hp:Ew c row=true) (hf:(Ef c m row).2=0):Ew (Bp c m).1 (Ef c m row).1=true:=by
 have hR:=Vs ht hm hg h hf
 obtain ⟨e1,hrc,hrt⟩:=Kv ht
 obtain ⟨p1,p2,p3⟩:=row_iff.1 hp
 refine row_iff.2 ⟨o6 hrt,hR.len,fun i v y hv hy=>?_⟩
 refine ⟨(hR.fine v (Aw hv)).plain,?_⟩
 have hk:(B2 c row m.ahead).2=0:=by
  unfold Ef at hf
  by_cases h1:((B2 c row m.ahead).2 != 0)=true
  ·rw [if_pos h1] at hf
   exact hf
  simpa using h1
 have ev:Ef c m row=(Fm m.take c row++(B2 c row m.ahead).1,0):=if_neg (by rw [hk];simp)
 rw [ev] at hv
 rw [e1] at hy
 have hlen:=U6 (take:=m.take) h.len
 rcases Bw i (Fm m.take c row).length with hi|hi
 ·rw [Dm hi] at hv
  rw [Dm (by omega)] at hy
  obtain ⟨j,j1,j2⟩:=fm h.len i v y hv hy
  exact (p3 j v y j1 j2).2
 rw [Dn hi] at hv
 rw [Dn (by omega),←hlen] at hy
 generalize i-(Fm m.take c row).length=j at hv hy
 have hj:j<m.ahead.length:=by
  have:=(Ad.1 hv).1
  rw [Mi hk] at this
  exact this
 obtain ⟨a1,a2⟩:=b7 hk j m.ahead[j] (Ab hj)
 rw [a2] at hv
 injection hv with hv
 rw [←hv]
 exact AJa (fl (sw ht).1 j _ y (Ab hj) hy) hp a1
/-! Columns of parts of moves. -/
/-- Rows on the way forth are rows. -/
theorem wd {c:List Col} {l:List Mov} {row:List Val} (h:OkMovs l) (hs:((Bn c l).2 != 0)=false) (h0:RowI c row) (hp:Ew c row=true):∀k,k≤l.length→(fwM c l row k).2=0→Ew (colsAt c l k) (fwM c l row k).1=true
 | 0,_,_=>hp
 | k+1,hk,he=>by
  obtain ⟨hmay,hst,_⟩:=Ee hs
  have h1:(fwM c l row k).2=0:=H3 fun hn=>by
   rw [aj hn (k+1) (by omega)] at he
   exact hn he
  obtain ⟨m,hm⟩:∃m,l[k]? = some m:=⟨l[k],Ab (by omega)⟩
  have hml:=Aw hm
  have e:=U8 hm h1
  rw [e,Eu hm]
  exact sx (Lm hst hm) (H1 hmay m hml) (fun e he=>(h.each m hml).ahead.rng e he) (b6 h hs h0 k (by omega) h1) (wd h hs h0 hp k (by omega) h1) (by rw [←e];exact he)
theorem AFr {c:List Col} {l:List Mov} {row:List Val} (hs:((Bn c l).2 != 0)=false) (hp:Ew c row=true):Ek c l row=fwM c l row l.length:=if_neg (by rw [hs,hp];simp)
theorem AJb {c:List Col} {l:List Mov} {row:List Val} (hs:((Bn c l).2 != 0)=false) (hp:Ew (colsAt c l l.length) row=true):Iv c l row=bkM c l row l.length:=if_neg (by rw [hs,hp];simp)
/-! A row that went forth through a move comes back through it, where the trees back come to what was taken. -/
theorem sy {c:List Col} {m:Mov} {row:List Val} (hf:(Ef c m row).2=0):(B2 c row m.ahead).2=0∧(Ef c m row).1=Fm m.take c row++(B2 c row m.ahead).1:=by
 unfold Ef at hf ⊢
 split at hf
 ·rename_i h1
  rw [show (B2 c row m.ahead).2=0 from hf] at h1
  cases h1
 rename_i h1
 rw [if_neg h1]
 exact ⟨by simpa using h1,rfl⟩
theorem AFs {x:Expr} {c:List Col} {l:List Val} (h:(Bx x c l).2=0):Az x=true∧Ew c l=true∧Bx x c l=C9 c l x:=by
 have h:(Tx B8 x c l).2=0:=h
 show _∧_∧Tx B8 x c l=_
 unfold Tx at h ⊢
 split at h
 ·cases h
 rename_i h1
 rw [if_neg h1]
 simp only [D7,Iy,not_or,Uo] at h1
 exact ⟨h1.1,h1.2,rfl⟩
theorem jy {x:Expr} {c:List Col} {l:List Val} (hx:Az x=true) (hr:Ew c l=true):Bx x c l=C9 c l x:=by
 show Tx B8 x c l=_
 unfold Tx
 rw [if_neg (by rw [hx,hr];simp)]
theorem AJc {c:List Col} {l:List Val} {t:Str}:C9 c l (D6 t)=Qj c l t:=by
 show Fz B8 _ _ _=_
 rw [Nu]
 rfl
/-! Trees put in the columns' places keep the kinds, or are of none. -/
def Le0 (a b:Int):Prop:=a=b∨a=0
def LeL:List Int→List Int→Prop
 | [],[]=>True
 | a::r,b::s=>Le0 a b∧LeL r s
 | _,_=>False
theorem we {c c' k k':Int} (hc:Le0 c' c) (hk:Le0 k' k) (h:(Fe c k).2=true):(Fe c' k').2=true∧Le0 (Fe c' k').1 (Fe c k).1:=by
 unfold Le0 at *
 unfold Fe at *
 simp only [beq_iff_eq,D7] at *
 repeat' split
 all_goals simp_all
 all_goals omega
theorem Xj:∀{ws ks ks':List Int} {c c' m:Int},LeL ks' ks→Le0 c' c→H7 ws ks c=some m→∃m',H7 ws ks' c'=some m'∧Le0 m' m
 | ws,[],[],c,c',m,_,hc,h=>by
  have e:∀z,H7 ws [] z=some z:=fun z=>by cases ws<;>rfl
  rw [e] at h
  injection h with h
  exact ⟨c',e c',h ▸ hc⟩
 | _,[],_::_,_,_,_,hl,_,_=>hl.elim
 | _,_::_,[],_,_,_,hl,_,_=>hl.elim
 | [],_::_,_::_,_,_,_,_,_,h=>by cases h
 | w::ws,k::ks,k'::ks',c,c',m,hl,hc,h=>by
  rw [H7] at h ⊢
  cases hw2:w == -2 with
  | true =>
   rw [hw2,if_pos rfl] at h
   rw [if_pos rfl]
   exact Xj hl.2 hc h
  | false =>
   rw [hw2,if_neg (by simp)] at h
   rw [if_neg (by simp)]
   cases hw1:w == -1 with
   | true =>
    rw [hw1,if_pos rfl] at h
    rw [if_pos rfl]
    cases hm:(Fe c k).2 with
    | false=>rw [hm] at h;cases h
    | true =>
     rw [hm,if_pos rfl] at h
     have:=we hc hl.1 hm
     rw [this.1,if_pos rfl]
     exact Xj hl.2 this.2 h
   | false =>
    rw [hw1,if_neg (by simp)] at h
    rw [if_neg (by simp)]
    cases hm:(Fe w k).2 with
    | false=>rw [hm] at h;cases h
    | true =>
     rw [hm,if_pos rfl] at h
     have:=we (.inl rfl:Le0 w w) hl.1 hm
     rw [this.1,if_pos rfl]
     exact Xj hl.2 hc h
theorem t4 {l:List (Int×Int)} (h:∀q∈l,q.2=0):l.find? (fun q=>q.2 != 0)=none:=N3.2 fun q hq=>by simpa using h q hq
theorem o7 {c:List Col} {o:Int} {t:Str} {v:Val} {ks:List (Int×Int)} (h1:(o==1)=false) (h2:(o==2)=false) (h:∀q∈ks,q.2=0):Ns c o t v ks=Pd (La o t) (ks.map (·.1)):=by
 unfold Ns
 rw [h1,h2,t4 h]
 rfl
theorem AJd {s:Sign} {ks ks':List Int} (hl:LeL ks' ks) (h:(Pd s ks).2=0):(Pd s ks').2=0∧Le0 (Pd s ks').1 (Pd s ks).1:=by
 unfold Pd at h ⊢
 cases hk:H7 s.kids ks 0 with
 | none=>rw [hk] at h;cases h
 | some m =>
  obtain ⟨m',e,hm⟩:=Xj hl (.inl rfl) hk
  rw [e]
  simp only
  split
  ·exact ⟨rfl,hm⟩
  exact ⟨rfl,.inl rfl⟩
mutual
theorem o8 {c c0:List Col} {t:List Expr} (H:∀s,(Je c s).2=0→(Bh c0 (t.getD (Ay s c).toNat Av)).2=0∧Le0 (Bh c0 (t.getD (Ay s c).toNat Av)).1 (Je c s).1):∀x:Expr,Dy F1 x=true→(Bh c x).2=0→∃y,putF c t x=some y∧(Bh c0 y).2=0∧Le0 (Bh c0 y).1 (Bh c x).1
 | .mk o s v k,hn,h=>by
  rw [Jc,As] at hn
  by_cases h1:(o==1)=true
  ·have ho:o=1:=by simpa using h1
   subst ho
   have hk:k=[]:=by
    have:=hn.1
    unfold F1 at this
    rw [if_pos (show ((Expr.mk 1 s v k).op==1)=true from rfl),As] at this
    have h3:((k.length:Int)==0)=true:=this.2
    simpa using h3
   subst hk
   exact ⟨.mk 1 s v [],rfl,rfl,.inl rfl⟩
  have h1':(o==1)=false:=by simpa using h1
  by_cases h2:(o==2)=true
  ·have e:Bh c (.mk o s v k)=Je c s:=by rw [Bh];unfold Ns;rw [if_neg h1,if_pos h2]
   rw [e] at h ⊢
   rw [putF,if_pos h2]
   have hf:¬Ay s c<0:=fun hf=>by unfold Je at h;rw [if_pos hf] at h;cases h
   rw [if_neg hf]
   exact ⟨_,rfl,H s h⟩
  have h2':(o==2)=false:=by simpa using h2
  rw [Bh] at h ⊢
  have hk:=mi h h1' h2'
  obtain ⟨r,hr,hr2,hr3⟩:=fp H k ((Fu _ _).1 hn.2) hk
  rw [o7 h1' h2' hk] at h ⊢
  refine ⟨.mk o s v r,by rw [putF,if_neg h2,hr];rfl,?_⟩
  rw [Bh,o7 h1' h2' hr2]
  exact AJd hr3 h
theorem fp {c c0:List Col} {t:List Expr} (H:∀s,(Je c s).2=0→(Bh c0 (t.getD (Ay s c).toNat Av)).2=0∧Le0 (Bh c0 (t.getD (Ay s c).toNat Av)).1 (Je c s).1):∀l:List Expr,(∀e∈l,Dy F1 e=true)→(∀q∈Nt c l,q.2=0)→∃r,Iu c t l=some r∧(∀q∈Nt c0 r,q.2=0)∧LeL ((Nt c0 r).map (·.1)) ((Nt c l).map (·.1))
  | [],_,_=>⟨[],rfl,fun q hq=>by simp [Nt] at hq,trivial⟩
  | e::l,hn,h=>by
    rw [Nt] at h
    obtain ⟨y,h1,h2,h3⟩:=o8 H e (hn e G5) (h _ G5)
    obtain ⟨r,h4,h5,h6⟩:=fp H l (fun x hx=>hn x (.tail _ hx)) (fun q hq=>h q (.tail _ hq))
    refine ⟨y::r,by rw [Iu,h1,h4];rfl,fun q hq=>?_,?_⟩
    · rw [Nt] at hq
      rcases B3.1 hq with rfl|hq
      · exact h2
      exact h5 q hq
    rw [Nt,Nt]
    exact ⟨h3,h6⟩
 end
/-- A tree that is of a column's kind, or of none. -/
structure FitX (c0:List Col) (e:Expr) (w:Int):Prop where
 right:Az e=true
 err:(Bh c0 e).2=0
 kind:Le0 (Bh c0 e).1 w
/-- Trees for columns, each of its column's kind. -/
structure FitT (c0 c:List Col) (t:List Expr):Prop where
 len:t.length=c.length
 each:∀p∈c.zip t,FitX c0 p.2 p.1.kind
theorem FitT.at {c0 c:List Col} {t:List Expr} (h:FitT c0 c t) {i:Nat} {y:Col} {e:Expr} (hy:c[i]? = some y) (he:t[i]? = some e):FitX c0 e y.kind:=
 h.each (y,e) (Aw (i:=i) (N6.2 ⟨hy,he⟩))
theorem FitT.rights {c0 c:List Col} {t:List Expr} (h:FitT c0 c t):∀e∈t,Az e=true:=fun e he=>by
 obtain ⟨i,hi⟩:=Cb he
 have hil:=(Ad.1 hi).1
 exact (h.at (Ab (by rw [←h.len];exact hil)) hi).right
theorem FitT.name {c0 c:List Col} {t:List Expr} (h:FitT c0 c t) (s:Str) (hs:(Je c s).2=0):(Bh c0 (t.getD (Ay s c).toNat Av)).2=0∧Le0 (Bh c0 (t.getD (Ay s c).toNat Av)).1 (Je c s).1:=by
 have hf:¬Ay s c<0:=fun hf=>by unfold Je at hs;rw [if_pos hf] at hs;cases hs
 obtain ⟨j,y,hj,_,e⟩:=find_mem.1 hf
 have hjl:=(Ad.1 hj).1
 unfold Je
 rw [if_neg hf,e,Int.toNat_natCast,Bv,Ab (by rw [h.len];exact hjl),Bv,hj]
 have:=h.at hj (Ab (by rw [h.len];exact hjl))
 exact ⟨this.err,this.kind⟩
theorem FitT.app {c0 c d:List Col} {t u:List Expr} (h:FitT c0 c t) (h2:FitT c0 d u):FitT c0 (c++d) (t++u):=by
 refine ⟨by rw [Ai,Ai,h.len,h2.len],?_⟩
 rw [List.zip_append h.len.symm]
 intro p hp
 rcases El.1 hp with hp|hp
 ·exact h.each p hp
 exact h2.each p hp
theorem FitT.own {c:List Col} (h:Cs c=true):FitT c c (Ht c):=by
 obtain ⟨_,hok,hnd⟩:=Tu (by rw [Kq];exact h)
 refine ⟨by simp [Ht],fun p hp=>?_⟩
 obtain ⟨i,hi⟩:=Cb hp
 rw [N6] at hi
 obtain ⟨h1,h2⟩:=hi
 unfold Ht at h2
 rw [C5,h1] at h2
 injection h2 with h2
 have hy:=Aw h1
 rw [←h2]
 have e:Bh c (D6 p.1.name)=(p.1.kind,0):=by rw [Qh];exact rp hnd hy rfl
 exact ⟨by rw [Sl,←Im];exact (hok _ hy).name,by rw [e],by rw [e];exact .inl rfl⟩
theorem AMr {x:Expr} {c:List Col} {w:Int} (h:¬(Rk x c w != 0)=true):FitX c x w:=by
 have h0:Rk x c w=0:=by simpa using h
 unfold Rk at h0
 split at h0
 ·rename_i h1;exact absurd h0 (by simpa using h1)
 rename_i h1
 have h2:(Gb x c).2=0:=by simpa using h1
 obtain ⟨h3,_,h4⟩:=mu h2
 split at h0
 ·cases h0
 rename_i h5
 have h6:Rw x c w=true:=by simpa using h5
 unfold Rw at h6
 rw [h4] at h6 h2
 simp only [As,D7,beq_iff_eq] at h6
 exact ⟨h3,h6.1,h6.2⟩
theorem jz {c:List Col}:∀{l:List Expr} {ws:List Col},D8 c l ws=0→∀p∈ws.zip l,FitX c p.2 p.1.kind
 | [],ws,_,p,hp=>by simp at hp
 | x::l,[],_,p,hp=>by simp at hp
 | x::l,w::ws,h,p,hp=>by
  rw [D8] at h
  split at h
  ·rename_i h1;exact absurd h (by simpa using h1)
  rename_i h1
  rw [List.zip_cons_cons] at hp
  rcases B3.1 hp with rfl|hp
  ·exact AMr h1
  exact jz h p hp
/-- A tree over trees that fit. -/
theorem AFt {c0 c:List Col} {t:List Expr} {x:Expr} {w:Int} (hc:Cs c=true) (ht:FitT c0 c t) (hx:FitX c x w):((Cy x c t).2=0∨(Cy x c t).2=3)∧((Cy x c t).2=0→FitX c0 (Cy x c t).1 w):=by
 have hcm:Jq c=true:=by unfold Cs at hc;simp only [As] at hc;exact hc.2
 have h0:((((!(Az x)) || t.any Ed) || !(Jb c)) || ((c.length:Int) != (t.length:Int)))=false:=by
  rw [hx.right,Mw,hcm,ht.len]
  simp only [Ig,Fb,Pi,bne_self_eq_false]
  rw [Iz]
  intro e he
  unfold Ed
  rw [ht.rights e he]
  simp
 obtain ⟨y,hy,hk,hle⟩:=o8 ht.name x (Ov (by rw [←Fv];exact hx.right)) hx.err
 rw [AEm h0,hy]
 simp only
 split
 ·rename_i hr
  refine ⟨.inl rfl,fun _=>⟨hr,hk,?_⟩⟩
  have:=hx.kind
  unfold Le0 at hle this ⊢
  rcases hle with h|h
  ·rw [h];exact this
  exact .inr h
 exact ⟨.inr rfl,fun h=>absurd (show (3:Int)=0 from h) (by decide)⟩
theorem Vx {c0 c:List Col} {t:List Expr} (hc:Cs c=true) (ht:FitT c0 c t):∀{l:List Expr} {ws:List Col},l.length=ws.length→(∀p∈ws.zip l,FitX c p.2 p.1.kind)→((Br c t l).2=0∨(Br c t l).2=3)∧((Br c t l).2=0→FitT c0 ws (Br c t l).1)
 | [],[],_,_=>⟨.inl rfl,fun _=>⟨rfl,fun p hp=>by simp at hp⟩⟩
 | [],_::_,h,_=>by simp at h
 | _::_,[],h,_=>by simp at h
 | x::l,w::ws,hl,h=>by
  have h1:=AFt hc ht (h (w,x) (by simp))
  have h2:=Vx hc ht (l:=l) (ws:=ws) (by simpa using hl) (fun p hp=>h p (by rw [List.zip_cons_cons];exact .tail _ hp))
  unfold Br
  split
  ·rename_i h3
   refine ⟨h1.1,fun e=>absurd e (by simpa using h3)⟩
  rename_i h3
  split
  ·rename_i h4
   exact ⟨h2.1,fun e=>absurd e (by simpa using h4)⟩
  rename_i h4
  refine ⟨.inl rfl,fun _=>?_⟩
  have a:=h1.2 (by simpa using h3)
  have b:=h2.2 (by simpa using h4)
  refine ⟨by simp [b.len],fun p hp=>?_⟩
  rw [List.zip_cons_cons] at hp
  rcases B3.1 hp with rfl|hp
  ·exact a
  exact b.each p hp
theorem AFu {c0 c:List Col} {t:List Expr} {take:List Str} (h:FitT c0 c t):FitT c0 (Dg c take) (E3 take c t):=by
 refine ⟨Kb h.len.symm,fun p hp=>?_⟩
 rw [f9 h.len.symm,Vu] at hp
 obtain ⟨i,hi⟩:=Cb hp
 rw [N6,C5,C5] at hi
 cases hz:((c.zip t).filter fun p => !take.contains p.1.name)[i]? with
 | none=>rw [hz] at hi;cases hi.1
 | some q =>
  rw [hz] at hi
  have h1:q.1=p.1:=gm hi.1
  have h2:q.2=p.2:=gm hi.2
  rw [←h1,←h2]
  exact h.each q (O3.1 (Aw hz)).1
theorem fq {c:List Col} {m:Mov} (h:(Bp c m).2=0):D8 c m.ahead (By c m)=0∧D8 (Bp c m).1 m.back (Gp c m)=0:=by
 unfold Bp at h ⊢
 split at h
 ·rename_i h1;exact absurd h (by simpa using h1)
 rename_i h1
 rw [if_neg h1]
 split at h
 ·rename_i h2;exact absurd h (by simpa using h2)
 rename_i h2
 rw [if_neg h2]
 split at h
 ·rename_i h3;exact absurd h (by simpa using h3)
 rename_i h3
 rw [if_neg h3]
 exact ⟨by simpa using h2,by simpa using h3⟩
theorem Wv {c:List Col} {m:Mov} {r:List Mov}:∀k,colsAt c (m::r) (k+1)=colsAt (Bp c m).1 r k
 | 0=>rfl
 | k+1=>by rw [colsAt,Wv k,colsAt];rfl
theorem b8 {c:List Col} {m:Mov} {r:List Mov}:colsAt c (m::r) (m::r).length=colsAt (Bp c m).1 r r.length:=Wv _
theorem fu {c0:List Col}:∀(ms:List Mov) (c:List Col) (t:List Expr),Cs c=true→(∀m∈ms,I5 m=true)→(C7 c ms).2=0→FitT c0 c t→((Gc c t ms).2=0∨(Gc c t ms).2=3)∧((Gc c t ms).2=0→FitT c0 (colsAt c ms ms.length) (Gc c t ms).1)
 | [],c,t,_,_,_,ht=>⟨.inl rfl,fun _=>ht⟩
 | m::r,c,t,hc,hv,hs,ht=>by
  have h2:=ap hs
  have h3:=Kv h2.1
  have h4:=fq h2.1
  have h5:=Fg (It (hv m G5))
  have h6:=Vx hc ht (l:=m.ahead) (ws:=By c m) (by rw [Ka];exact h5.1) (jz h4.1)
  unfold Gc
  split
  ·rename_i h7
   exact ⟨h6.1,fun e=>absurd e (by simpa using h7)⟩
  rename_i h7
  rw [b8]
  exact fu r _ _ h3.2.2 (fun x hx=>hv x (.tail _ hx)) h2.2 (by rw [h3.1];exact (AFu ht).app (h6.2 (by simpa using h7)))
theorem AFv {c d d0:List Col} {m:Mov} {was t:List Expr} (hc:Cs c=true) (hd:Cs d=true) (hde:d=Dg c m.take++By c m) (ht:FitT d0 d t) (hw:FitT d0 (Gp c m) was) {y:Col} (hy:y∈c):FitX d0 (O0 m.take was t d y) y.kind:=by
 have hcn:=(Tu (by rw [Kq];exact hc)).2.2
 have hdn:=(Tu (by rw [Kq];exact hd)).2.2
 unfold O0
 split
 ·rename_i h
  obtain ⟨j,hj,hjl⟩:=AEr h
  have hs:m.take[j]=y.name:=by
   unfold Jp at hj
   cases hf:m.take.findIdx? (·==y.name) with
   | none=>rw [hf] at hj;exact absurd hj (by simp)
   | some i =>
    rw [hf] at hj
    have e2:i=j:=Int.ofNat.inj hj
    subst e2
    simpa using (N4.1 hf).2.1
  rw [hj,Int.toNat_natCast]
  have htk:(Gp c m)[j]? = some y:=by
   unfold Gp
   rw [C5,Ab hjl]
   obtain ⟨i,hi⟩:=Cb hy
   show some (c.getD (Ay m.take[j] c).toNat ⟨[],0⟩)=some y
   rw [hs,Oo hcn hi,Int.toNat_natCast,Bv,hi]
   rfl
  have hwl:j<was.length:=by rw [hw.len];exact (Ad.1 htk).1
  rw [Bv,Ab hwl]
  exact hw.at htk (Ab hwl)
 rename_i h
 have hyd:y∈d:=by
  rw [hde]
  refine T3 _ ?_
  unfold Dg
  rw [O3]
  refine ⟨hy,?_⟩
  rw [←Xe,decide_eq_false h]
  rfl
 obtain ⟨i,hi⟩:=Cb hyd
 have htl:i<t.length:=by rw [ht.len];exact (Ad.1 hi).1
 rw [Oo hdn hi,Int.toNat_natCast,Bv,Ab htl]
 exact ht.at hi (Ab htl)
theorem o9:∀(ms:List Mov) (c:List Col),Cs c=true→(∀m∈ms,I5 m=true)→(C7 c ms).2=0→((Ho c ms).2=0∨(Ho c ms).2=3)∧((Ho c ms).2=0→FitT (colsAt c ms ms.length) c (Ho c ms).1)
 | [],c,hc,_,_=>⟨.inl rfl,fun _=>FitT.own hc⟩
 | m::r,c,hc,hv,hs=>by
  have h2:=ap hs
  have h3:=Kv h2.1
  have h4:=fq h2.1
  have h5:=Fg (It (hv m G5))
  have ih:=o9 r _ h3.2.2 (fun x hx=>hv x (.tail _ hx)) h2.2
  unfold Ho
  rw [b8]
  split
  ·rename_i h7
   exact ⟨ih.1,fun e=>absurd e (by simpa using h7)⟩
  rename_i h7
  have ht:=ih.2 (by simpa using h7)
  have h6:=Vx h3.2.2 ht (l:=m.back) (ws:=Gp c m) (by unfold Gp;rw [Ah];exact h5.2) (jz h4.2)
  split
  ·rename_i h8
   exact ⟨h6.1,fun e=>absurd e (by simpa using h8)⟩
  rename_i h8
  refine ⟨.inl rfl,fun _=>⟨by simp [I7],fun p hp=>?_⟩⟩
  obtain ⟨i,hi⟩:=Cb hp
  rw [N6] at hi
  obtain ⟨a,b⟩:=hi
  unfold I7 at b
  rw [C5,a] at b
  have e:_=p.2:=gm b
  rw [←e]
  exact AFv hc h3.2.2 h3.1 ht (h6.2 (by simpa using h8)) (Aw a)
/-! FuseForth: one tree does all moves. -/
theorem t6 {f:Int→Str→List Val→Rs} {c c0:List Col} {l l0:List Val} {o:Int} {t:Str} {v:Val} {ks:List Rs} (h:(o==2)=false):Ks f c0 l0 o t v ks=Ks f c l o t v ks:=by
 unfold Ks
 rw [h]
 rfl
mutual
theorem Vy {c c0:List Col} {t:List Expr} {l l0:List Val} (H:∀s,¬Ay s c<0→C9 c0 l0 (t.getD (Ay s c).toNat Av)=(l.getD (Ay s c).toNat noV,0)):∀x y:Expr,putF c t x=some y→C9 c0 l0 y=C9 c l x
 | .mk o s v k,y,h=>by
  rw [putF] at h
  by_cases h2:(o==2)=true
  ·rw [if_pos h2] at h
   have ho:o=2:=by simpa using h2
   subst ho
   split at h
   ·cases h
   rename_i hf
   injection h with h
   subst h
   rw [H s hf]
   show _=Fz B8 c l _
   rw [Nu]
   show _=Qj c l s
   unfold Qj
   rw [if_neg hf]
  have h2':(o==2)=false:=by simpa using h2
  rw [if_neg h2] at h
  cases hk:Iu c t k with
  | none=>rw [hk] at h;cases h
  | some r =>
   rw [hk] at h
   injection h with h
   subst h
   show Fz B8 c0 l0 _=Fz B8 c l _
   rw [Nu,Nu]
   show Ks B8 c0 l0 o s v (r.map _)=Ks B8 c l o s v (k.map _)
   rw [b9 H k r hk,t6 (c:=c) (l:=l) h2']
theorem b9 {c c0:List Col} {t:List Expr} {l l0:List Val} (H:∀s,¬Ay s c<0→C9 c0 l0 (t.getD (Ay s c).toNat Av)=(l.getD (Ay s c).toNat noV,0)):∀k r:List Expr,Iu c t k=some r→r.map (Fz B8 c0 l0)=k.map (Fz B8 c l)
  | [],r,h=>by
    rw [Iu] at h
    injection h with h
    subst h
    rfl
  | e::k,r,h=>by
    rw [Iu] at h
    cases h1:putF c t e with
    | none=>rw [h1] at h;cases h
    | some y =>
      rw [h1] at h
      cases h2:Iu c t k with
      | none=>simp only [h2] at h;cases h
      | some s =>
        simp only [h2] at h
        injection h with h
        subst h
        rw [Bm,Bm,b9 H k s h2]
        exact congrArg (·::_) (Vy H e y h1)
 end
/-- Trees that come, over a row, to the values of another one. -/
structure Comes (c0:List Col) (l0:List Val) (t:List Expr) (r:List Val):Prop where
 len:t.length=r.length
 each:∀(j:Nat) (e:Expr) (v:Val),t[j]? = some e→r[j]? = some v→Bx e c0 l0=(v,0)
theorem Comes.name {c0 c:List Col} {l0 r:List Val} {t:List Expr} (h:Comes c0 l0 t r) (hl:r.length=c.length) (s:Str) (hs:¬Ay s c<0):C9 c0 l0 (t.getD (Ay s c).toNat Av)=(r.getD (Ay s c).toNat noV,0):=by
 obtain ⟨j,hj,hjl⟩:=Gu hs
 have ht:=h.len
 have h1:t[j]? = some (t.getD j Av):=by rw [Bv,Ab (by omega)];rfl
 have h2:r[j]? = some (r.getD j noV):=by rw [Bv,Ab (by omega)];rfl
 have:=h.each j _ _ h1 h2
 rw [hj,Int.toNat_natCast,←(AFs (by rw [this])).2.2,this]
/-- A tree over trees comes to what the tree comes to over their values. -/
theorem Comes.over {c0 c:List Col} {l0 r:List Val} {t:List Expr} (h:Comes c0 l0 t r) (hl:r.length=c.length) (h0:Ew c0 l0=true) {x:Expr} (ho:(Cy x c t).2=0) (hx:(Bx x c r).2=0):Bx (Cy x c t).1 c0 l0=Bx x c r:=by
 obtain ⟨_,_,e⟩:=AFs hx
 unfold Cy at ho ⊢
 split at ho
 ·cases ho
 rename_i h1
 rw [if_neg h1]
 cases hp:putF c t x with
 | none=>rw [hp] at ho;cases ho
 | some y =>
  rw [hp] at ho
  simp only at ho ⊢
  split at ho
  ·rename_i hr
   rw [if_pos hr,jy hr h0,e]
   exact Vy (h.name hl) x y hp
  cases ho
theorem Comes.overs {c0 c:List Col} {l0 r:List Val} {t:List Expr} (h:Comes c0 l0 t r) (hl:r.length=c.length) (h0:Ew c0 l0=true):∀{l:List Expr},(Br c t l).2=0→(B2 c r l).2=0→Comes c0 l0 (Br c t l).1 (B2 c r l).1
 | [],_,_=>⟨rfl,fun j e v h1=>by cases h1⟩
 | x::l,ho,hr=>by
  rw [Br] at ho ⊢
  rw [B2] at hr ⊢
  by_cases a1:((Cy x c t).2 != 0)=true
  ·rw [if_pos a1] at ho
   rw [show (Cy x c t).2=0 from ho] at a1
   cases a1
  rw [if_neg a1] at ho ⊢
  by_cases a2:((Br c t l).2 != 0)=true
  ·rw [if_pos a2] at ho
   rw [show (Br c t l).2=0 from ho] at a2
   cases a2
  rw [if_neg a2]
  by_cases b1:((Bx x c r).2 != 0)=true
  ·rw [if_pos b1] at hr
   rw [show (Bx x c r).2=0 from hr] at b1
   cases b1
  rw [if_neg b1] at hr ⊢
  by_cases b2:((B2 c r l).2 != 0)=true
  ·rw [if_pos b2] at hr
   rw [show (B2 c r l).2=0 from hr] at b2
   cases b2
  rw [if_neg b2]
  have ih:=h.overs hl h0 (l:=l) (by simpa using a2) (by simpa using b2)
  refine ⟨by simp [ih.len],fun j e v h1 h2=>?_⟩
  cases j with
  | zero =>
   have e1:(Cy x c t).1=e:=by simpa using h1
   have e2:(Bx x c r).1=v:=by simpa using h2
   have hx:(Bx x c r).2=0:=by simpa using b1
   rw [←e1,h.over hl h0 (by simpa using a1) hx]
   exact Mq e2 hx
  | succ j=>exact ih.each j e v (by simpa using h1) (by simpa using h2)
theorem fw {take:List Str}:∀{c:List Col} {t:List Expr} {r:List Val},t.length=c.length→r.length=c.length→∀(j:Nat) (e:Expr) (v:Val),(E3 take c t)[j]? = some e→(Fm take c r)[j]? = some v→∃i:Nat,t[i]? = some e∧r[i]? = some v
 | [],[],[],_,_,j,e,v,h,_=>by simp [E3] at h
 | [],_::_,_,h,_,_,_,_,_,_=>by simp at h
 | [],_,_::_,_,h,_,_,_,_,_=>by simp at h
 | _::_,[],_,h,_,_,_,_,_,_=>by simp at h
 | _::_,_::_,[],_,h,_,_,_,_,_=>by simp at h
 | a::c,b::t,d::r,ht,hr,j,e,v,h1,h2=>by
  have ih:=fw (take:=take) (c:=c) (t:=t) (r:=r) (by simpa using ht) (by simpa using hr)
  unfold E3 at h1
  unfold Fm at h2
  rw [List.zip_cons_cons,Hz] at h2
  by_cases hc:take.contains a.name=true
  ·rw [if_pos hc] at h1
   rw [if_neg (by rw [hc];simp)] at h2
   obtain ⟨i,e1,e2⟩:=ih j e v h1 (by unfold Fm;exact h2)
   exact ⟨i+1,by simpa using e1,by simpa using e2⟩
  rw [if_neg hc] at h1
  rw [if_pos (by simpa using hc)] at h2
  cases j with
  | zero=>exact ⟨0,by simpa using h1,by simpa using h2⟩
  | succ j =>
   obtain ⟨i,e1,e2⟩:=ih j e v (by simpa using h1) (by unfold Fm;simpa using h2)
   exact ⟨i+1,by simpa using e1,by simpa using e2⟩
theorem Comes.app {c0:List Col} {l0 r s:List Val} {t u:List Expr} (h:Comes c0 l0 t r) (h2:Comes c0 l0 u s):Comes c0 l0 (t++u) (r++s):=by
 refine ⟨by simp [h.len,h2.len],fun j e v a b=>?_⟩
 by_cases hj:j<t.length
 ·rw [Dm hj] at a
  rw [Dm (by rw [←h.len];exact hj)] at b
  exact h.each j e v a b
 rw [Dn (by omega)] at a
 rw [Dn (by rw [←h.len];omega),←h.len] at b
 exact h2.each _ e v a b
theorem Comes.own {c:List Col} {row:List Val} (hc:Cs c=true) (hp:Ew c row=true):Comes c row (Ht c) row:=by
 obtain ⟨_,hok,hnd⟩:=Tu (by rw [Kq];exact hc)
 have hl:row.length=c.length:=by
  unfold Ew at hp
  simp only [As,beq_iff_eq] at hp
  exact hp.1.2
 refine ⟨by simp [Ht,hl],fun j e v h1 h2=>?_⟩
 unfold Ht at h1
 rw [C5] at h1
 cases hy:c[j]? with
 | none=>rw [hy] at h1;cases h1
 | some y =>
  rw [hy] at h1
  injection h1 with h1
  rw [←h1]
  rw [jy (by rw [Sl,←Im];exact (hok _ (Aw hy)).name) hp,AJc]
  unfold Qj
  rw [Oo hnd hy,if_neg (by omega),Int.toNat_natCast,Bv,h2]
  rfl
theorem AJe {c:List Col} {ms:List Mov} (hf:(Gc c (Ht c) ms).2=0) {k:Nat} {m:Mov} (hk:ms[k]? = some m) (h:L6 c ms k):(Br (colsAt c ms k) (C8 c ms k) m.ahead).2=0:=by
 by_cases he:((Br (colsAt c ms k) (C8 c ms k) m.ahead).2 != 0)=true
 ·rw [s7 hk h he] at hf
  rw [show (Br (colsAt c ms k) (C8 c ms k) m.ahead).2=0 from hf] at he
  cases he
 simpa using he
theorem wg {c:List Col} {l:List Mov} {row:List Val} (h:OkMovs l) (hs:((Bn c l).2 != 0)=false) (hR:RowI c row) (hp:Ew c row=true) (hf:(fwM c l row l.length).2=0) (ht:(Gc c (Ht c) l).2=0):∀k,k≤l.length→L6 c l k∧(fwM c l row k).2=0∧Comes c row (C8 c l k) (fwM c l row k).1
 | 0,_=>by
  obtain ⟨hmay,_,_⟩:=Ee hs
  have hc:Cs c=true:=by unfold L5 at hmay;simp only [As] at hmay;exact hmay.1
  exact ⟨AM4,rfl,.own hc hp⟩
 | k+1,hk=>by
  obtain ⟨n,f0,ih⟩:=wg h hs hR hp hf ht k (by omega)
  obtain ⟨m,hm⟩:∃m,l[k]? = some m:=⟨_,Ab (by omega)⟩
  have ho:=AJe ht hm n
  have f1:(fwM c l row (k+1)).2=0:=H3 fun hn=>by
   by_cases e:k+1=l.length
   ·rw [←e] at hf;exact hn hf
   rw [aj hn l.length (by omega)] at hf
   exact hn hf
  have e:=U8 hm f0
  refine ⟨jp hm n (by rw [ho];rfl),f1,?_⟩
  rw [e] at f1 ⊢
  obtain ⟨g1,g2⟩:=sy f1
  have hl:=(b6 h hs hR k (by omega) f0).len
  rw [g2,C8,hm]
  refine Comes.app ⟨?_,fun j e v a b=>?_⟩ (ih.overs hl hp ho g1)
  ·rw [U6 hl,Kb (by rw [ih.len,hl])]
  obtain ⟨i,a1,a2⟩:=fw (by rw [ih.len,hl]) hl j e v a b
  exact ih.each i e v a1 a2
theorem BackAt.step {c:List Col} {ms:List Mov} {k:Nat} (h:BackAt c ms k) (hk:k<ms.length) (hf:(O1 c ms ms.length (Ht (colsAt c ms ms.length))).2=0):(P0 c ms (ms.length-1-k) (Ci c ms k)).2=0:=by
 by_cases he:((P0 c ms (ms.length-1-k) (Ci c ms k)).2 != 0)=true
 ·rw [h.err hk he] at hf
  rw [show (P0 c ms (ms.length-1-k) (Ci c ms k)).2=0 from hf] at he
  cases he
 simpa using he
theorem Comes.get {c0:List Col} {l0 r:List Val} {t:List Expr} (h:Comes c0 l0 t r) {j:Nat} (hj:j<r.length):Bx (t.getD j Av) c0 l0=(r.getD j noV,0):=by
 have ht:=h.len
 refine h.each j _ _ ?_ ?_
 ·rw [Bv,Ab (by omega)];rfl
 rw [Bv,Ab hj];rfl
theorem wh {c:List Col} {l:List Mov} {x:List Val} (hc:OkCols c) (h:OkMovs l) (hs:((Bn c l).2 != 0)=false) (hR:RowI (colsAt c l l.length) x) (hp:Ew (colsAt c l l.length) x=true) (hf:(bkM c l x l.length).2=0) (ht:(O1 c l l.length (Ht (colsAt c l l.length))).2=0):∀k,k≤l.length→BackAt c l k∧(bkM c l x k).2=0∧Comes (colsAt c l l.length) x (Ci c l k) (bkM c l x k).1
 | 0,_=>by
  obtain ⟨hmay,hst,_⟩:=Ee hs
  have hrc:Cs c=true:=by unfold L5 at hmay;simp only [As] at hmay;exact hmay.1
  exact ⟨.zero (E4 hc (fun m hm=>h.each m hm) l.length),rfl,.own (Oz hrc hst _) hp⟩
 | k+1,hk=>by
  obtain ⟨hmay,hst,_⟩:=Ee hs
  obtain ⟨n,f0,ih⟩:=wh hc h hs hR hp hf ht k (by omega)
  obtain ⟨m,hm⟩:∃m,l[l.length-1-k]? = some m:=⟨_,Ab (by omega)⟩
  have hmd:l.getD (l.length-1-k) Su=m:=by rw [Bv,hm];rfl
  have hml:=Aw hm
  have hw:=n.step (by omega) ht
  have f1:(bkM c l x (k+1)).2=0:=H3 fun hn=>by
   by_cases e:k+1=l.length
   ·rw [←e] at hf;exact hn hf
   rw [js hn l.length (by omega)] at hf
   exact hn hf
  have e:=U9 hm f0
  refine ⟨n.next (by omega) (by rw [hmd];exact h.each m hml) (by rw [hw];rfl),f1,?_⟩
  have hB:=ss h hR k (by omega) f0
  have htn:=Lm hst hm
  have hcn:=Eu (c:=c) hm
  have hrl:=hB.row.len
  rw [show l.length-k=l.length-1-k+1 by omega] at hrl
  rw [e] at f1 ⊢
  rw [Ci,hmd]
  unfold P0 at hw ⊢
  rw [hmd] at hw ⊢
  generalize l.length-1-k=i at *
  unfold D4 at f1 ⊢
  split at f1
  ·rename_i h1
   rw [show (B2 (colsAt c l (i+1)) (bkM c l x k).1 m.back).2=0 from f1] at h1
   cases h1
  rename_i h1
  rw [if_neg h1]
  have h1:(B2 (colsAt c l (i+1)) (bkM c l x k).1 m.back).2=0:=by simpa using h1
  have hov:=ih.overs hrl hp hw h1
  have hbl:=Mi h1
  have hct:=Fg (It (H1 hmay m hml))
  refine ⟨by simp [I7],fun j e v a b=>?_⟩
  unfold I7 at a
  rw [C5] at a b
  cases hy:(colsAt c l i)[j]? with
  | none=>rw [hy] at a;cases a
  | some y =>
   rw [hy] at a b
   injection a with a
   injection b with b
   rw [←a,←b]
   unfold O0 U7
   by_cases hi:0≤Jp y.name m.take
   ·rw [if_pos hi,if_pos hi]
    obtain ⟨q,hq,hql⟩:=vw hi
    rw [hq,Int.toNat_natCast]
    exact hov.get (by omega)
   rw [if_neg hi,if_neg hi]
   obtain ⟨q,hq,hql⟩:=AFa htn (Aw hy) hi
   rw [←hcn] at hq hql
   rw [hq,Int.toNat_natCast]
   exact ih.get (by omega)
/-- What the law asks, forth. -/
theorem ba {c:List Col} {l:List Mov} {row:List Val} (h:OkMovs l) (hrr:∀v∈row, -9223372036854775808≤v.n∧v.n≤9223372036854775807) (hf:(Ek c l row).2=0):(((Bn c l).2 != 0)=false∧Ew c row=true∧Ew (colsAt c l l.length) (Ek c l row).1=true∧RowI (colsAt c l l.length) (Ek c l row).1)∧((Fh c l).2=0∨(Fh c l).2=3)∧((Fh c l).2=0→Comes c row (Fh c l).1 (Ek c l row).1):=by
 by_cases h0:(((Bn c l).2 != 0) || !Ew c row)=true
 ·rw [show Ek c l row=([],1) from if_pos h0] at hf
  cases hf
 have h1:((Bn c l).2 != 0)=false∧Ew c row=true:=by simpa using h0
 have hR:=O2 h1.2 hrr
 have e:=AFr h1.1 h1.2
 rw [e] at hf
 obtain ⟨hmay,hst,_⟩:=Ee h1.1
 have hrc:Cs c=true:=by unfold L5 at hmay;simp only [As] at hmay;exact hmay.1
 have em:Fh c l=Gc c (Ht c) l:=if_neg (by rw [h1.1];simp)
 refine ⟨⟨h1.1,h1.2,?_,?_⟩,?_,fun ht=>?_⟩
 ·rw [e];exact wd h h1.1 hR h1.2 _ (Al _) hf
 ·rw [e];exact b6 h h1.1 hR _ (Al _) hf
 ·rw [em];exact (fu l c (Ht c) hrc (H1 hmay) hst (.own hrc)).1
 rw [em] at ht
 obtain ⟨n,_,g⟩:=wg h h1.1 hR h1.2 hf ht l.length (Al _)
 rw [em,s8 n,e]
 exact g
/-- What it asks back. -/
theorem AAr {c:List Col} {l:List Mov} {x:List Val} (hc:OkCols c) (h:OkMovs l) (hs:((Bn c l).2 != 0)=false) (hR:RowI (colsAt c l l.length) x) (hp:Ew (colsAt c l l.length) x=true) (hb:(Iv c l x).2=0) (ht:(Gx c l).2=0):Comes (colsAt c l l.length) x (Gx c l).1 (Iv c l x).1∧TOk (Gx c l).1:=by
 have e:=AJb hs hp
 rw [Qp hs] at ht ⊢
 rw [e] at hb ⊢
 obtain ⟨n,_,g⟩:=wh hc h hs hR hp hb ht l.length (Al _)
 rw [n.fin]
 exact ⟨g,n.ok⟩
/-! The laws of RewriteForth, RewriteBack, RewriteNone. -/
theorem AJf {q:Qry} {c:List Col} (h:Cu q c=0):Md q=true∧Jb c=true∧(Mc q=true→(Bh c q.whr).2=0):=by
 unfold Cu at h
 split at h
 ·exact iw
 rename_i h1
 have h1':Md q=true∧Jb c=true:=by simpa using h1
 refine ⟨h1'.1,h1'.2,fun ha=>?_⟩
 split at h
 ·exact iw
 split at h
 ·rename_i h3
  rw [ha] at h3;cases h3
 split at h
 ·rename_i h4
  rw [show (Gb q.whr c).2=0 from h] at h4;cases h4
 rename_i h4
 have h5:(Gb q.whr c).2=0:=by simpa using h4
 unfold Gb at h5
 split at h5
 ·exact absurd h5 (by decide)
 exact h5
theorem t7 {q:Qry} (h:Md q=true) (ha:Mc q=true):Az q.whr=true:=by
 unfold Md at h
 split at h
 ·cases h
 rw [ha] at h
 simp only [As,Ig,Fb] at h
 rw [Fv]
 exact h.2
theorem oa {x:Expr} (h:Az x=true):(x.op==0)=false:=by
 rw [Fv] at h
 have h1:=Ov h
 rw [Jc,As] at h1
 cases M9 h1.1<;>rfl
theorem AJg {q:Qry} (ha:Mc q=false):q.whr=Av:=by
 unfold Mc at ha
 exact (Xd _ _).1 (by simpa using ha)
theorem AJh {q:Qry} (h:Md q=true):(q.whr.op==0) = !Mc q:=by
 cases ha:Mc q with
 | false=>rw [AJg ha];rfl
 | true=>exact oa (t7 h ha)
/-- What a turned query is. -/
structure Plan (q:Qry) (d:List Col) (t:List Expr) (p:Pln):Prop where
 lim:p.lim=q.lim
 trees:p.trees=Jk q d t
 whr:(Mc q=false∧p.whr=Av)∨(Mc q=true∧Az p.whr=true∧p.whr=(Cy q.whr d t).1∧(Cy q.whr d t).2=0)
theorem bb {x:Expr} {c:List Col} {l:List Expr} (h:(Cy x c l).2=0):Az x=true∧Az (Cy x c l).1=true:=by
 unfold Cy at h ⊢
 split at h
 ·exact iw
 rename_i h1
 rw [if_neg h1]
 refine ⟨?_,?_⟩
 ·simp only [D7,Iy,not_or,Uo] at h1
  exact h1.1.1.1
 cases hp:putF c l x with
 | none=>rw [hp] at h;exact absurd h (show ¬(9:Int)=0 by decide)
 | some y =>
  rw [hp] at h
  simp only at h ⊢
  split at h
  ·rename_i h2
   rw [if_pos h2]
   exact h2
  exact iw
theorem t8 {q:Qry} {d:List Col} {t:List Expr} (hc:Cu q d=0) (h0:(Kx q d t).2=0):Plan q d t (Kx q d t).1:=by
 have ho:=AJh (AJf hc).1
 unfold Kx at h0 ⊢
 split
 ·rename_i h1
  rw [h1] at ho
  exact ⟨rfl,rfl,.inl ⟨by simpa using ho,rfl⟩⟩
 rename_i h1
 rw [if_neg h1] at h0
 rw [show (q.whr.op==0)=false by simpa using h1] at ho
 split
 ·rename_i h2
  rw [if_pos h2] at h0
  rw [show (Cy q.whr d t).2=0 from h0] at h2
  cases h2
 rename_i h2
 have h3:(Cy q.whr d t).2=0:=by simpa using h2
 exact ⟨rfl,rfl,.inr ⟨by simpa using ho,(bb h3).2,rfl,h3⟩⟩
theorem AFw {c0 c:List Col} {l0 r:List Val} {t:List Expr} (h:Comes c0 l0 t r) (hl:r.length=c.length) (h0:Ew c0 l0=true) (hr:Ew c r=true) {x:Expr} (ho:(Cy x c t).2=0):Bx (Cy x c t).1 c0 l0=Bx x c r:=by
 have hx:=bb ho
 rw [jy hx.2 h0,jy hx.1 hr]
 unfold Cy at ho ⊢
 split at ho
 ·exact absurd ho (by decide)
 rename_i h1
 rw [if_neg h1]
 cases hp:putF c t x with
 | none=>rw [hp] at ho;exact absurd ho (show ¬(9:Int)=0 by decide)
 | some y =>
  rw [hp] at ho
  simp only at ho ⊢
  split at ho
  ·rename_i h2
   rw [if_pos h2]
   exact Vy (h.name hl) x y hp
  exact absurd ho (by decide)
theorem AJi {q:Qry} {d c0:List Col} {t:List Expr} {p:Pln} {l0 r:List Val} (hP:Plan q d t p) (hC:Comes c0 l0 t r) (hl:r.length=d.length) (h0:Ew c0 l0=true) (hr:Ew d r=true):Ld p c0 l0=Cj q d r:=by
 have e1:Ld p c0 l0=Ws p c0 l0:=if_pos h0
 have e2:Cj q d r=if !Mc q then (true,0) else (Zt (Bx q.whr d r),U1 (Bx q.whr d r)):=if_neg (by rw [hr];simp)
 rw [e1,e2]
 unfold Ws
 rcases hP.whr with ⟨ha,hw⟩|⟨ha,hx,hw,ho⟩
 ·rw [hw,ha];rfl
 rw [if_neg (by rw [oa hx];simp),if_neg (by rw [ha];simp),hw,AFw hC hl h0 hr ho]
theorem Vz {c0:List Col} {l0:List Val}:∀{ts:List Expr} {vs:List Val},ts.length=vs.length→(∀(j:Nat) (e:Expr) (v:Val),ts[j]? = some e→vs[j]? = some v→Bx e c0 l0=(v,0))→B2 c0 l0 ts=(vs,0)
 | [],[],_,_=>rfl
 | [],_::_,h,_=>by simp at h
 | _::_,[],h,_=>by simp at h
 | e::ts,v::vs,hl,h=>by
  rw [B2,h 0 e v rfl rfl,Vz (ts:=ts) (vs:=vs) (by simpa using hl) (fun j e v h1 h2=>h (j+1) e v (by simpa using h1) (by simpa using h2))]
  rfl
theorem Comes.tree {c0 c:List Col} {l0 r:List Val} {t:List Expr} (h:Comes c0 l0 t r) (hl:r.length=c.length) {s:Str} (hs:¬Ay s c<0):Lc c t s∈t∧Bx (Lc c t s) c0 l0=(r.getD (Ay s c).toNat noV,0):=by
 obtain ⟨j,hj,hjl⟩:=Gu hs
 have ht:=h.len
 have h1:t[j]? = some (t.getD j Av):=by rw [Bv,Ab (by omega)];rfl
 have h2:r[j]? = some (r.getD j noV):=by rw [Bv,Ab (by omega)];rfl
 unfold Lc
 rw [hj,Int.toNat_natCast]
 exact ⟨Aw h1,h.each j _ _ h1 h2⟩
theorem AJj {q:Qry} {d c0:List Col} {t:List Expr} {p:Pln} {l0 r:List Val} (k:Int) (hP:Plan q d t p) (hC:Comes c0 l0 t r) (hl:r.length=d.length) (hn:∀s∈q.cols,¬Ay s d<0):N0 p c0 ⟨k,l0⟩=(Ku q d ⟨k,r⟩,0):=by
 have h1:B2 c0 l0 p.trees=((Ku q d ⟨k,r⟩).l,0):=by
  rw [hP.trees]
  unfold Jk Ku
  cases q.all with
  | true=>exact Vz hC.len hC.each
  | false =>
   refine Vz (by simp) fun j e v a b=>?_
   simp only [Bg,↓reduceIte,C5,En] at a b
   obtain ⟨s,hs,rfl⟩:=a
   obtain ⟨s',hs',rfl⟩:=b
   rw [hs] at hs'
   injection hs' with hs'
   subst hs'
   exact (hC.tree hl (hn s (Aw hs))).2
 unfold N0
 rw [h1]
 rfl
theorem AR4 {q:Qry} {d c0:List Col} {t:List Expr} {p:Pln} {l0 r:List Val} (k:Int) (hP:Plan q d t p) (hC:Comes c0 l0 t r) (hl:r.length=d.length) (h0:Ew c0 l0=true) (hr:Ew d r=true) (hn:∀s∈q.cols,¬Ay s d<0):stP p c0 ⟨k,l0⟩=Cj q d r∧Nm p c0 ⟨k,l0⟩=Ku q d ⟨k,r⟩:=by
 have h1:=AJj k hP hC hl hn
 have h2:=AJi hP hC hl h0 hr
 refine ⟨?_,by unfold Nm;rw [h1]⟩
 cases hg:Ub p c0 ⟨k,l0⟩ with
 | false=>rw [AK6 hg,←h2]
 | true =>
  rw [AK5 hg,h1,←h2]
  unfold Ub at hg
  simp only [As,beq_iff_eq] at hg
  exact Mq hg.2.symm hg.1.symm
theorem ob {h h':Row→Bool×Int} {g g':Row→Row} {n:Int} {f:Row→Row}:∀(rows o:List Row),(∀x∈rows,h (f x)=h' x∧((h' x).1=true→g (f x)=g' x))→Lq h g n (rows.map f) o=Lq h' g' n rows o
 | [],_,_=>rfl
 | x::r,o,H=>by
  obtain ⟨h1,h2⟩:=H x G5
  have ih:=fun o=>ob (h:=h) (h':=h') (g:=g) (g':=g') (n:=n) (f:=f) r o (fun y hy=>H y (J2 _ hy))
  rw [Bm,Lq,Lq,h1]
  split
  ·rfl
  split
  ·rename_i h3
   rw [h2 h3,ih]
  rw [ih]
theorem AFx {p:Pln} {q:Qry} {c0 d:List Col} {rows rows':List Row} (hw:Qs p c0=false) (hk:Cu q d=0) (hl:p.lim=q.lim) (hs:Lq (stP p c0) (Nm p c0) q.lim rows []=Lq (fun x=>Cj q d x.l) (Ku q d) q.lim rows' []):cm p c0 rows=Vo q d rows':=by
 unfold cm Vo
 rw [if_neg (by rw [hw];simp),hk,hl]
 cases h:q.lim==0 with
 | true=>rfl
 | false =>
  rw [if_neg (by simp),if_neg (by simp),hs,al]
theorem AFy {q:Qry} {d c0:List Col} {t:List Expr} {p:Pln} (hP:Plan q d t p) (hc:Jb c0=true) (ht:∀e∈t,Az e=true) (hl:t.length=d.length) (hn:∀s∈q.cols,¬Ay s d<0):Qs p c0=false:=by
 have h1:p.trees.any Ed=false:=by
  rw [Iz]
  intro e he
  unfold Ed
  rw [hP.trees] at he
  unfold Jk at he
  split at he
  ·rw [ht e he];simp
  obtain ⟨s,hs,rfl⟩:=C2.1 he
  obtain ⟨j,hj,hjl⟩:=Gu (hn s hs)
  have h1:t[j]? = some (t.getD j Av):=by rw [Bv,Ab (by omega)];rfl
  unfold Lc
  rw [hj,Int.toNat_natCast,ht _ (Aw h1)]
  simp
 unfold Qs
 rw [hc,h1]
 rcases hP.whr with ⟨_,hw⟩|⟨_,hx,_,_⟩
 ·rw [hw];rfl
 unfold Ed;rw [hx];simp
theorem tc {c:List Col} (h:Cs c=true):Jb c=true:=by
 rw [Mw]
 unfold Cs at h
 rw [As] at h
 exact h.2
def wi (c:List Col) (l:List Mov) (x:Row):Row:=⟨x.key,(Ek c l x.l).1⟩
theorem od {q:Qry} {c:List Col} {l:List Mov} (h:(Hm q c l).2=0):((H8 c l).2 != 0)=false∧Cu q c=0∧(Gx c l).2=0∧Hm q c l=Kx q c (Gx c l).1:=by
 cases h1:((H8 c l).2 != 0) with
 | true=>rw [AK7 h1] at h;exact absurd h (by decide)
 | false =>
  cases h2:(Cu q c != 0) with
  | true=>rw [AK8 h1 h2] at h;rw [show Cu q c=0 from h] at h2;cases h2
  | false =>
   cases h3:((Gx c l).2 != 0) with
   | true=>rw [AK9 h1 h2 h3] at h;rw [show (Gx c l).2=0 from h] at h3;cases h3
   | false=>exact ⟨rfl,by simpa using h2,by simpa using h3,AKa h1 h2 h3⟩
theorem AAs {c:List Col} {l:List Mov} (hs:((Bn c l).2 != 0)=false):Cs c=true∧(∀m∈l,I5 m=true)∧(C7 c l).2=0:=by
 obtain ⟨hmay,hst,_⟩:=Ee hs
 unfold L5 at hmay
 refine ⟨?_,H1 (show L5 c l=true from hmay),hst⟩
 rw [As] at hmay
 exact hmay.1
theorem AMs {q:Qry} {c:List Col} {l:List Mov} {rows:List Row} (hc:OkCols c) (h:OkMovs l) (hr:∀x∈rows,(∀v∈x.l, -9223372036854775808≤v.n∧v.n≤9223372036854775807)∧P2 c l x.l=true) (h0:(Hm q c l).2=0) (hs:((Bn c l).2 != 0)=false):
  cm (Hm q c l).1 (Fl c l).1 (rows.map (wi c l))=Vo q c rows:=by
 obtain ⟨hL,hK,hF,e⟩:=od h0
 rw [e] at h0 ⊢
 have hP:=t8 hK h0
 have hn:=P3 hK
 obtain ⟨hrc,hv,hst⟩:=AAs hs
 have el:=Vq hs
 have hfit:=(o9 l c hrc hv hst).2
 rw [←ju hs] at hfit
 have hT:=hfit hF
 rw [el]
 refine AFx (AFy hP (tc (Oz hrc hst _)) hT.rights hT.len hn) hK hP.lim ?_
 refine ob rows [] fun x hx=>?_
 obtain ⟨h1,h2⟩:=hr x hx
 unfold P2 at h2
 split at h2
 ·cases h2
 rename_i h3
 have hf:(Ek c l x.l).2=0:=by simpa using h3
 simp only [As,beq_iff_eq,decide_eq_true_eq] at h2
 obtain ⟨⟨_,hp,hpX,hRX⟩,_,_⟩:=ba h h1 hf
 obtain ⟨hC,_⟩:=AAr hc h hs hRX hpX h2.1 hF
 rw [h2.2] at hC
 have:=AR4 x.key hP hC (O2 hp h1).len hpX hp hn
 exact ⟨this.1,fun _=>this.2⟩
theorem c52 (e:Expr) (hok:okE 61 e) (Hp:List AObj):AFun Tryz.prog 52 [Aa e] Hp (B4 (Ed e)):=by
 refine Ae [.tmp 2] [0] Tryz.func52 Tryz.ntmps52 (fun d=>?_)
 refine Z92 ?_;refine Z2 ?_;exact AKn

theorem AR5 (l:List Expr) (hl:l.length≤1048576) (hn:∀e∈l,okE 61 e) (Hp:List AObj):AFun Tryz.prog 98 [C4 l,.fn (.func 52) [] []] Hp (A3 (Qn Ed l)):=by
 refine Ae [.tmp 4] [0,1] Tryz.func98 Tryz.ntmps98 (fun d=>?_)
 refine io ?_
 refine Bi (α:=Nat) (fun x=>⟨19,A6 0 (C4 l) (A6 1 (.fn (.func 52) [] []) (A6 7 (A3 l.length) (A6 8 (A3 (x:Nat)) (fun _=>.any)))),Hp,[],[],none⟩) (fun x=>x≤l.length∧∀(j:Nat) y,j<x→l[j]? = some y→Ed y=false) (fun x=>l.length-x) (0) ⟨Au _,fun j y h=>by omega⟩ (Bo (by simp)) rfl (fun x hx=>?_)
 refine ig ?_
 refine Ck (fun ht9=>?_) (fun ht9=>?_)
 ·have hlt:x<l.length:=by simpa using ht9
  refine ik ?_
  refine A5 (h:=Ag (x) (Aa l[x]) (fun _=>B7 hlt)) (hr:=?_)
  refine A5 ?_;refine Od Tryz.call52 (c52 l[x] (hn _ (Bl hlt)) _) ?_;refine iv ?_
  refine A4 (fun ht16=>?_) (fun ht16=>?_)
  ·exact ABz
  exact AC3
 have hxe:l.length≤x:=by simpa using ht9
 exact AC4

theorem AR6 (l:List Expr) (hl:l.length≤1048576) (hn:∀e∈l,okE 61 e) (Hp:List AObj):AFun Tryz.prog 51 [C4 l,.fn (.func 52) [] []] Hp (B4 (l.any Ed)):=by
 refine Ae [.tmp 4] [0,1] Tryz.func51 Tryz.ntmps51 (fun d=>?_)
 refine iq ?_;refine A7 Tryz.call98 (AR5 l hl hn _) ?_;exact AC7

theorem AJk:Le (.agg [A3 0,.nil]) (Eo ⟨0,[]⟩):=.agg _ _ rfl (by simp;exact ⟨rfl,rfl⟩) fun i y y' h h'=>by
 rcases i with _|_|i<;>simp at h h'<;>subst h<;>subst h'
 ·exact .inl rfl
 exact .inr ⟨rfl,_,rfl⟩
def S1 (p:Pln) (c:List Col) (x:Row) (i:Nat):List Val:=(p.trees.take i).map fun e=>(Bx e c x.l).1
theorem td {p:Pln} {c:List Col} {x:Row} {i:Nat} (h:i<p.trees.length):S1 p c x (i+1)=S1 p c x i++[(Bx p.trees[i] c x.l).1]:=by
 unfold S1
 rw [Ty h]
theorem AFz {p:Pln} {c:List Col} {x:Row} {i:Nat} (hi:p.trees.length≤i) (h:∀(j:Nat) (y:Expr),j<i→p.trees[j]? = some y→((Bx y c x.l).2 != 0)=false):N0 p c x=(⟨x.key,S1 p c x i⟩,0):=by
 have:=Sv (l:=p.trees) (c:=c) (row:=x.l) (fun j y hy=>h j y (by have:=(Ad.1 hy).1;omega) hy)
 unfold N0 S1
 rw [this,E9 hi]
 rfl
theorem AG0 {p:Pln} {c:List Col} {x:Row} {i:Nat} (hi:i<p.trees.length) (h:∀(j:Nat) (y:Expr),j<i→p.trees[j]? = some y→((Bx y c x.l).2 != 0)=false) (he:((Bx p.trees[i] c x.l).2 != 0)=true):N0 p c x=(⟨0,[]⟩,(Bx p.trees[i] c x.l).2):=by
 have e:=Sw h (Ab hi) he
 unfold N0
 rw [e,if_pos he]
theorem AG1 {n:Nat} {p:Pln}:∀y∈AA3 p,Low n y:=by
 intro y hy
 simp only [B3,E5,or_false] at hy
 rcases hy with rfl|rfl|rfl|rfl|rfl|rfl|rfl|rfl
 ·exact Dj
 ·simp
 ·simp
 ·simp
 ·simp
 ·simp
 ·exact Dj
 simp
theorem AUo (p:Pln) (hp:PW p) (c:List Col) (hc:OkCols c) (l:List Val) (hll:l.length≤1048576) (hlr:∀v∈l, -9223372036854775808≤v.n∧v.n≤9223372036854775807) (Hp:List AObj):AFun Tryz.prog 100 [jt p,Am c,Ce l] Hp (.tup [B4 (Ws p c l).1,A3 (Ws p c l).2]):=by
 refine Ae [.tmp 6,.tmp 7] [0,1,2] Tryz.func100 Tryz.ntmps100 (fun d=>?_)
 refine Z15 ?_;refine A2 [1,2,3] ?_;refine Z79 ?_;refine A2 [1,2,3,11] ?_
 refine A4 (fun ht11=>?_) (fun ht11=>?_)
 ·have hm:Ws p c l=(true,0):=if_pos ht11
  refine Z1 ?_;refine Z16 ?_;exact Z31
 have hm:Ws p c l=(Zt (Bx p.whr c l),U1 (Bx p.whr c l)):=if_neg (by rw [ht11];simp)
 refine Y6 ?_;refine A7 Tryz.call142 (AQl 61 p.whr hp.ok (by decide) hp.rng c hc l hll hlr _) ?_;refine Z68 ?_;exact ANz

theorem AUp (p:Pln) (hp:PW p) (c:List Col) (hc:OkCols c) (x:Row) (hx:x.l.length≤1048576) (hxr:∀v∈x.l, -9223372036854775808≤v.n∧v.n≤9223372036854775807) (Hp:List AObj):AFun Tryz.prog 101 [jt p,Am c,Eo x] Hp (.tup [Eo (N0 p c x).1,A3 (N0 p c x).2]):=by
 refine Ae [.cell 6 58,.tmp 7] [0,1,2] Tryz.func101 Tryz.ntmps101 (fun d=>?_)
 refine Z1 ?_;refine Z47 ?_;refine A2 [1,3,5,6] ?_;refine AKq ?_;refine Z9 ?_;refine A2 [1,3,5,6,8] ?_;refine Z43 ?_;refine Hg 1 1 3 ?_;refine Z68 ?_;refine A2 [1,5,6,8,17,18,19] ?_
 refine Bi (α:=Nat) (fun i=>⟨43,A6 1 (Am c) (A6 5 (.ro (sj x)) (A6 6 (.ptr (oid Hp.length 0) 0) (A6 8 (.ptr (oid Hp.length 1) 0) (A6 17 (C4 p.trees) (A6 18 (A3 (p.trees.length:Nat)) (A6 19 (A3 (i:Nat)) (fun _=>.any))))))),Hp,[.cells 58 [A3 0,.nil],.cells 58 [A3 x.key,.slice true 3 ((S1 p c x i).map Bq)]],[],none⟩) (fun i=>i≤p.trees.length∧∀(j:Nat) (y:Expr),j<i→p.trees[j]? = some y→((Bx y c x.l).2 != 0)=false) (fun i=>p.trees.length-i) (0) ⟨Au _,fun j y h=>by omega⟩ (Bo (by simp [S1])) rfl (fun i hi=>?_)
 refine Z2 ?_;refine A2 [1,5,6,8,17,18,19,20] ?_
 refine Ck (fun ht20=>?_) (fun ht20=>?_)
 ·have hlt:i<p.trees.length:=by simpa using ht20
  have hkl:=hp.len
  refine Z73 ?_
  refine A5 (h:=Ag (i) (Aa p.trees[i]) (fun _=>B7 hlt)) (hr:=?_)
  refine Z99 ?_;refine A2 [1,5,6,8,10,17,18,19] ?_;refine Z23 ?_;refine A7 Tryz.call138 (AMf 61 p.trees[i] (hp.tok _ (Bl hlt)) (by decide) (hp.trng _ (Bl hlt)) c hc x.l hx hxr _) ?_;refine Rf ?_;refine A2 [1,5,6,8,11,12,17,18,19] ?_;refine Z7 ?_;refine A2 [1,5,6,8,11,12,17,18,19,32] ?_
  refine A4 (fun ht32=>?_) (fun ht32=>?_)
  ·have hm:=AG0 hlt hi.2 ht32
   refine F0 ?_;refine R.buildLe (Eo ⟨0,[]⟩) AJk (places:=#[(0,1),(1,1)]) jU (fun w=>by simp) Tryz.zeroValue58 ?_;refine xn ?_;refine Z48 ?_;exact A9 (B1 (B6 jA jS) A8) ⟨by rw [hm]<;>rfl,rfl⟩
  refine Z3 ?_;refine Z50 ?_;refine Y0 jA ?_;refine Z58 ?_
  refine E6 jU Tryz.type24 ?_ ?_ ?_
  ·unfold S1;simp only [Ah,C1,B0,Bu,Tryz.t24];omega
  ·unfold S1;simp only [Ah,C1,B0,Bu,Tryz.t24];omega
  refine AGs ?_;refine A2 [1,5,6,8,17,18,19] ?_;refine Q3 ?_;refine A2 [1,5,6,8,17,18,19] ?_;refine Bt (i+1) ⟨hlt,Di hlt hi.2 ht32⟩ (by omega) ?_
  simp only [td hlt,Bj,Bm,Dc]
  exact D0 (own:=[.cells 58 [A3 0,.nil],.cells 58 [A3 x.key,.slice true 3 ((S1 p c x i).map Bq++[Bq (Bx p.trees[i] c x.l).1])]]) (fun _=>.refl _) (by repeat (first|exact Bb|refine Ba (by first|exact Dj|exact AG1|(simp [or_imp,forall_and,oid];done)|(simp [or_imp,forall_and,oid]<;>omega)) ?_)) (by simp [ObjLow,or_imp,forall_and]) (by simp)
 have hxe:p.trees.length≤i:=by simpa using ht20
 have hm:=AFz hxe hi.2
 refine qc ?_;refine Z69 ?_;exact A9 (B1 (B6 jA jS) A8) ⟨by rw [hm]<;>rfl,rfl⟩ (hlow:=by simp [or_imp,forall_and])

theorem c53 (p:Pln) (c:List Col) (rows:List Row) (Hp:List AObj):AFun Tryz.prog 53 [jt p,Am c,Hu rows] Hp (.fn (.func 99) [] [.ro [Hu rows],.ro [Am c],.ro (AA3 p)]):=by
 refine Ae [.tmp 6] [0,1,2] Tryz.func53 Tryz.ntmps53 (fun d=>?_)
 refine Z23 ?_;refine A2 [3,4,5] ?_;refine pz ?_;refine Z75 ?_;exact A9 (Ao A8) ⟨rfl,rfl⟩ (hlow:=by simp [or_imp,forall_and]<;>(repeat' apply And.intro)<;>(intros;exact Ak _ _))

theorem c99 (l:Nat) (p:Pln) (hp:PW p) (c:List Col) (hc:OkCols c) (rows:List Row) (hw:RW rows) (U:Nat→List AObj) (N:Nat→Prop) (Z:List AObj→Prop) (hlen:∀k,(U k).length=(U 0).length) (hll:l<(U 0).length)
  (hlw:∀k,∀x∈U k,ObjLow (U 0).length x) (h0:N 0) (hn:∀k y,rows[k]? = some y→N k→(stP p c y).2=0→(stP p c y).1=false→N (k+1)∧U (k+1)=U k)
  (he:∀k y X,rows[k]? = some y→N k→(stP p c y).2≠0→AYield Tryz.prog l [.agg [A3 0,.nil],A3 (stP p c y).2] (U k++X) (fun b H'=>∃V,H'=V++X∧V.length=(U 0).length∧(∀x∈V,ObjLow (U 0).length x)∧Z V))
  (hy:∀k y X,rows[k]? = some y→N k→(stP p c y).2=0→(stP p c y).1=true→AYield Tryz.prog l [Eo (Nm p c y),A3 0] (U k++X) (fun b H'=>(b=true∧N (k+1)∧H'=U (k+1)++X)∨(b=false∧∃V,H'=V++X∧V.length=(U 0).length∧(∀x∈V,ObjLow (U 0).length x)∧Z V)))
  (hR:N rows.length→Z (U rows.length)):ACall Tryz.prog 99 [.yield l,.ro [Hu rows],.ro [Am c],.ro (AA3 p)] (U 0) (fun _ H'=>Z H'):=by
 refine Ae [] [0,1,2,3] Tryz.func99 Tryz.ntmps99 (fun d=>?_)
 refine Z15 ?_;refine A2 [0,2,3,10,11,12] ?_
 refine Bi (α:=Nat) (fun x=>⟨54,A6 0 (.yield l) (A6 2 (.ro [Am c]) (A6 3 (.ro (AA3 p)) (A6 10 (Hu rows) (A6 11 (A3 rows.length) (A6 12 (A3 (x:Nat)) (fun _=>.any)))))),U x,[],[],none⟩) (fun x=>x≤rows.length∧N x) (fun x=>rows.length-x) (0) ⟨Au _,h0⟩ (Bo (by simp)) rfl (fun x hx=>?_)
 refine Z2 ?_;refine A2 [0,2,3,10,11,12,13] ?_
 refine Ck (fun ht13=>?_) (fun ht13=>?_)
 ·have hlt:x<rows.length:=by simpa using ht13
  have hwl:=hw.len
  refine Z73 ?_
  refine A5 (h:=Ag (x) (Eo rows[x]) (fun _=>B7 hlt)) (hr:=?_)
  refine Z99 ?_;refine A2 [0,2,3,6,10,11,12] ?_;refine Z1 ?_;refine A2 [0,2,3,6,7,8,10,11,12] ?_
  refine W.join ⟨54,A6 0 (.yield l) (A6 2 (.ro [Am c]) (A6 3 (.ro (AA3 p)) (A6 6 (.ptr (oid (U x).length 0) 0) (A6 7 (B4 (Ld p c rows[x].l).1) (A6 8 (A3 (Ld p c rows[x].l).2) (A6 10 (Hu rows) (A6 11 (A3 rows.length) (A6 12 (A3 (x:Nat)) (fun _=>.any))))))))),U x,[AObj.cells 58 (sj rows[x])],[],none⟩ ?_ ?_
  ·refine Z15 ?_;refine A7 Tryz.call47 (c47 c hc rows[x].l (hw.at hlt).1 _) ?_;refine A2 [0,2,3,6,7,8,10,11,12,19] ?_
   refine A4 (fun ht19=>?_) (fun ht19=>?_)
   ·have hm:Ld p c rows[x].l=Ws p c rows[x].l:=if_pos ht19
    refine Z21 ?_;refine Z0 ?_;refine A7 Tryz.call100 (AUo p hp c hc rows[x].l (hw.at hlt).1 (hw.at hlt).2 _) ?_;refine Z59 ?_;refine A2 [0,2,3,6,7,8,10,11,12] ?_;refine K.thJ ?_
    rw [hm]
    exact Bo rfl
   have hm:Ld p c rows[x].l=(false,1):=if_neg (by rw [ht19];simp)
   refine Fo [0,2,3,6,7,8,10,11,12] ?_;refine Oa ?_;refine K.thJ ?_
   rw [hm]
   exact Bo rfl
  refine Z24 ?_;refine A2 [0,2,3,6,7,8,9,10,11,12] ?_;refine Z29 ?_;refine Z55 ?_;refine A2 [0,2,3,6,7,8,9,10,11,12,32] ?_
  refine A4 (fun ht32=>?_) (fun ht32=>?_)
  ·have hg:Ub p c rows[x]=true:=ht32
   have hs:=AK5 hg
   have hg1:(Ld p c rows[x].l).1=true:=by unfold Ub at hg;simp only [As] at hg;exact hg.2
   refine Z49 ?_;refine A7 Tryz.call101 (AUp p hp c hc rows[x] (hw.at hlt).1 (hw.at hlt).2 _) ?_;refine Z12 ?_;refine Z11 ?_;refine A2 [0,2,3,7,8,9,10,11,12] ?_;refine Il ?_;refine Z7 ?_;refine A2 [0,2,3,7,8,9,10,11,12,41] ?_
   refine A4 (fun ht41=>?_) (fun ht41=>?_)
   ·refine Z95 ?_;refine A5 ?_
    refine R.yield (l:=l) (args:=[.agg [A3 0,.nil],A3 (N0 p c rows[x]).2]) (by have h9:=fun X=>he x rows[x] X (Ab hlt) hx.2 (by rw [hs];simpa using ht41);rw [hs] at h9;exact h9 _) ?_
    rintro b V O hV ⟨W,h2,h3,h4,h5⟩
    obtain ⟨rfl,rfl⟩:=J0 h2 (by rw [hV,hlen x,h3])
    refine ⟨fun _=>by rw [h3];exact h4,fun o ho=>(by cases ho),?_⟩
    refine ABu ?_;exact AKv
   refine Nc ?_;refine Z6 ?_
   refine G.yield (l:=l) (C:=((Ld p c rows[x].l).1==true)) (args:=[Eo (N0 p c rows[x]).1,A3 0]) (fun hC=>hy x rows[x] _ (Ab hlt) hx.2 (by rw [hs];simpa using ht41) (by rw [hs])) ?_
   intro b V O hV hb hb0
   have hVO:O=[AObj.cells 58 (sj rows[x]),AObj.cells 58 (sj (N0 p c rows[x]).1)]∧((b=true∧N (x+1)∧V=U (x+1))∨(b=false∧V.length=(U 0).length∧(∀y∈V,ObjLow (U 0).length y)∧Z V)):=by
    rcases hb (by rw [hg1];rfl) with ⟨h1,h3,h2⟩|⟨h1,W,h2,h3,h4,h5⟩
    ·have h6:=J0 h2 (by rw [hV,hlen x,hlen (x+1)])
     exact ⟨h6.2,.inl ⟨h1,h3,h6.1⟩⟩
    obtain ⟨rfl,rfl⟩:=J0 h2 (by rw [hV,hlen x,h3])
    exact ⟨rfl,.inr ⟨h1,h3,h4,h5⟩⟩
   obtain ⟨rfl,hVO⟩:=hVO
   have hVl:V.length=(U 0).length:=by rw [hV,hlen x]
   have hVw:∀y∈V,ObjLow (U 0).length y:=by
    rcases hVO with ⟨_,_,rfl⟩|⟨_,_,h,_⟩
    ·exact hlw _
    exact h
   refine ⟨fun _=>by rw [hVl];exact hVw,fun o ho=>(by cases ho),?_⟩
   refine Z55 ?_;refine A2 [0,2,3,10,11,12,52] ?_
   refine A4 (fun ht52=>?_) (fun ht52=>?_)
   ·have hRV:Z V:=by
     rcases hVO with ⟨h2,_⟩|⟨_,_,_,h5⟩
     ·rw [hg1,h2] at ht52;simp at ht52
     exact h5
    refine Fc ?_;refine Z26 ?_;exact A9 .nores (hp:=hRV)
   have hVn:N (x+1)∧V=U (x+1):=by
    rcases hVO with ⟨_,h2,h3⟩|⟨h2,_⟩
    ·exact ⟨h2,h3⟩
    rw [hg1,h2] at ht52;simp at ht52
   obtain ⟨hN,rfl⟩:=hVn
   refine Z70 ?_;refine A2 [0,2,3,10,11,12] ?_;refine AGz ?_
   exact D0 (own:=[]) (fun _=>.refl _) (by repeat (first|exact Bb|refine Ba (by first|(simp [or_imp,forall_and];done)|(simp [or_imp,forall_and]<;>(repeat' apply And.intro)<;>(intros;exact Ak _ _))|(have:=hlen (x+1);simp;omega)) ?_)) (by simp) (by simp)
  have hg:Ub p c rows[x]=false:=ht32
  have hs:=AK6 hg
  refine iu ?_;refine A2 [0,2,3,7,8,9,10,11,12,41] ?_
  refine A4 (fun ht41=>?_) (fun ht41=>?_)
  ·refine Z95 ?_;refine A5 ?_
   refine R.yield (l:=l) (args:=[.agg [A3 0,.nil],A3 (Ld p c rows[x].l).2]) (by have h9:=fun X=>he x rows[x] X (Ab hlt) hx.2 (by rw [hs];simpa using ht41);rw [hs] at h9;exact h9 _) ?_
   rintro b V O hV ⟨W,h2,h3,h4,h5⟩
   obtain ⟨rfl,rfl⟩:=J0 h2 (by rw [hV,hlen x,h3])
   refine ⟨fun _=>by rw [h3];exact h4,fun o ho=>(by cases ho),?_⟩
   refine ABu ?_;exact AKv
  have hg1:(Ld p c rows[x].l).1=false:=by unfold Ub at hg;rw [show ((Ld p c rows[x].l).2==0)=true by simpa using ht41] at hg;simpa using hg
  refine Nc ?_;refine Z6 ?_
  refine G.yield (l:=l) (C:=((Ld p c rows[x].l).1==true)) (args:=[.agg [A3 0,.nil],A3 0]) (post:=fun _ _=>False) (fun hC=>by rw [hg1] at hC;cases hC) ?_
  intro b V O hV hb hb0
  obtain ⟨h1,h2⟩:=hb0 (by rw [hg1];rfl)
  subst h2
  obtain ⟨hN,hU⟩:=hn x _ (Ab hlt) hx.2 (by rw [hs];simpa using ht41) (by rw [hs];exact hg1)
  have hV2:V=U (x+1):=h1.trans hU.symm
  subst hV2
  refine ⟨fun _=>by rw [hlen (x+1)];exact hlw _,fun o ho=>(by cases ho),?_⟩
  refine Z55 ?_;refine A2 [0,2,3,10,11,12,52] ?_
  refine A4 (fun ht52=>?_) (fun ht52=>?_)
  ·rw [hg1] at ht52
   simp at ht52
  refine Z70 ?_;refine A2 [0,2,3,10,11,12] ?_;refine AGz ?_
  exact D0 (own:=[]) (fun _=>.refl _) (by repeat (first|exact Bb|refine Ba (by first|(simp [or_imp,forall_and];done)|(simp [or_imp,forall_and]<;>(repeat' apply And.intro)<;>(intros;exact Ak _ _))|(have:=hlen (x+1);simp;omega)) ?_)) (by simp) (by simp)
 have hxe:x=rows.length:=by have:=hx.1;simp at ht13;omega
 exact AKl

theorem AMt {p:Pln} {c:List Col} {rows:List Row} (h:Qs p c=true):cm p c rows=([],1):=if_pos h
theorem AMu {p:Pln} {c:List Col} {rows:List Row} (h:Qs p c=false) (h1:(p.lim==0)=true):cm p c rows=([],0):=by
 unfold cm;rw [if_neg (by rw [h];simp),if_pos h1]
theorem AMv {p:Pln} {c:List Col} {rows:List Row} (h:Qs p c=false) (h1:(p.lim==0)=false):cm p c rows=Lq (stP p c) (Nm p c) p.lim rows []:=by
 unfold cm;rw [if_neg (by rw [h];simp),if_neg (by rw [h1];simp)]
theorem c22 (p:Pln) (hp:PW p) (c:List Col) (hc:OkCols c) (rows:List Row) (hw:RW rows) (Hp:List AObj):AFun Tryz.prog 22 [jt p,Am c,Hu rows] Hp (.tup [Hu (cm p c rows).1,A3 (cm p c rows).2]):=by
 refine Ae [.cell 6 52,.cell 7 38] [0,1,2] Tryz.func22 Tryz.ntmps22 (fun d=>?_)
 refine ACc ?_;refine Rj ?_;refine A2 [1,2,3,6,7] ?_;refine Z33 ?_;refine A7 Tryz.call50 (c50 c hc _) ?_;refine Z38 ?_;refine Ca Tryz.call51 (fun hB=>AR6 p.trees hp.len hp.tok _) ?_;refine Z86 ?_;refine Z77 ?_;refine Ca Tryz.call52 (fun hB=>c52 p.whr hp.ok _) ?_;refine Z55 ?_;refine A2 [1,2,3,6,7,29] ?_
 refine A4 (fun ht29=>?_) (fun ht29=>?_)
 ·have hm:=AMt (rows:=rows) ht29
  refine xe ?_;refine L1 0 2 ?_;refine pu ?_;exact AGe
 have hwr:Qs p c=false:=ht29
 refine Z3 ?_;refine Z24 ?_;refine A2 [1,2,3,6,7,8] ?_;refine Z29 ?_;refine A2 [1,2,3,6,7,8,32] ?_
 refine A4 (fun ht32=>?_) (fun ht32=>?_)
 ·have hm:=AMu (rows:=rows) hwr ht32
  refine xe ?_;refine L1 0 2 ?_;refine pu ?_;exact AGe
 have hy:=AMv (rows:=rows) hwr ht32
 refine Z3 ?_;refine Z43 ?_;refine L1 2 2 ?_
 refine Jx (fun hlow=>?_)
 refine Z12 ?_;refine A7 Tryz.call53 (c53 p c rows _) ?_;refine A2 [3,6,7,8,36] ?_;refine K1 ?_
 refine L2 (m:=3) Tryz.call99 (fun FR as' bd' hFR has hbd=>?_)
 have hFRl:∀s,Low (Hp.length+5) (FR s):=by
  intro s
  rw [hFR]
  refine Lz ?_
  revert s
  repeat (first|exact Bb|refine Ba (by first|(simp [oid,or_imp,forall_and];done)|(simp [oid,or_imp,forall_and]<;>(first|omega|((repeat' apply And.intro)<;>(intros;exact Ak _ _))))) ?_)
 have hOl:∀{e:Int} {o:List Row} {lp:AObj},ObjLow (Hp.length+5) lp→∀x∈Hp++[AObj.cells 52 [AV.nil],AObj.cells 38 [A3 e],AObj.cells 52 [AV.slice true 2 ((o).map Eo)],AObj.defs,lp],ObjLow (Hp.length+5) x:=by
  intro e o lp hlp x hx
  refine Id (fun x hx=>L3 (by omega) (hlow x hx)) (fun x hx=>?_) x hx
  simp only [B3,E5,or_false] at hx
  rcases hx with rfl|rfl|rfl|rfl|rfl
  ·intro y hy;rw [B9.1 hy];simp
  ·intro y hy;rw [B9.1 hy];simp
  ·intro y hy;rw [B9.1 hy];exact f7
  ·trivial
  exact hlp
 refine ⟨_,c99 (oid Hp.length 4) p hp c hc rows hw (fun k=>Hp++[AObj.cells 52 [AV.nil],AObj.cells 38 [A3 0],AObj.cells 52 [AV.slice true 2 ((Mj (stP p c) (Nm p c) rows k).map Eo)],AObj.defs,AObj.loop LoopState.ready none FR 52 #[37,38] as' bd' (oid Hp.length 3)]) (NSt (stP p c) (Nm p c) p.lim rows) (fun V=>(∃o lp,V=Hp++[AObj.cells 52 [AV.nil],AObj.cells 38 [A3 0],AObj.cells 52 [AV.slice true 2 ((o).map Eo)],AObj.defs,lp]∧(lp=AObj.loop LoopState.ready none FR 52 #[37,38] as' bd' (oid Hp.length 3)∨lp=AObj.loop LoopState.done (some (Code.exit 0)) FR 52 #[37,38] as' bd' (oid Hp.length 3))∧Lq (stP p c) (Nm p c) p.lim rows []=(o,0))∨(∃e k,V=Hp++[AObj.cells 52 [AV.nil],AObj.cells 38 [A3 e],AObj.cells 52 [AV.slice true 2 ((Mj (stP p c) (Nm p c) rows k).map Eo)],AObj.defs,AObj.loop LoopState.done (some Code.ret) FR 52 #[37,38] as' bd' (oid Hp.length 3)]∧Lq (stP p c) (Nm p c) p.lim rows []=([],e))) (fun k=>by simp) (by simp [oid]) (fun k=>(fun x hx=>by rw [Ai];exact hOl (lp:=AObj.loop LoopState.ready none FR 52 #[37,38] as' bd' (oid Hp.length 3)) (by exact ⟨hFRl,by simp [oid]⟩) x hx)) AQp (fun k y hk hN he0 hf=>⟨AFc hk hN he0 hf,by simp only [ey (h:=stP p c) hk hf]⟩) (fun k y X hk hN hne=>?_) (fun k y X hk hN he0 hf=>?_) (fun hN=>.inl ⟨_,_,rfl,.inl rfl,AIu hN⟩),?_⟩
 ·generalize hV:Hp++[AObj.cells 52 [AV.nil],AObj.cells 38 [A3 0],AObj.cells 52 [AV.slice true 2 ((Mj (stP p c) (Nm p c) rows k).map Eo)],AObj.defs,AObj.loop LoopState.ready none FR 52 #[37,38] as' bd' (oid Hp.length 3)]++X=V
  have hL:V[oid Hp.length 4]? = some (AObj.loop LoopState.ready none FR 52 #[37,38] as' bd' (oid Hp.length 3)):=by rw [←hV,Ax,Ar];rfl
  have hA0:V[oid Hp.length 2]? = some (AObj.cells 52 [AV.slice true 2 ((Mj (stP p c) (Nm p c) rows k).map Eo)]):=by rw [←hV,Ax,Ar];rfl
  have hB0:V[oid Hp.length 0]? = some (AObj.cells 52 [AV.nil]):=by rw [←hV,Ax,Ar];rfl
  have hC0:V[oid Hp.length 1]? = some (AObj.cells 38 [A3 0]):=by rw [←hV,Ax,Ar];rfl
  refine J8 (pd:=none) (fr:=FR) (sz:=52) (ps:=#[37,38]) (df:=oid Hp.length 3) (asg:=as') (bd:=bd') hL rfl (by decide) (fun d=>?_)
  subst hFR has hbd
  refine Fo [3,6,7,8,37,38] ?_;refine bo ?_;refine A2 [3,6,7,8,9,38] ?_;refine Z50 ?_;refine A2 [3,6,7,8,9,10] ?_
  refine ⟨rfl,none,hL,?_⟩
  generalize hbz:(AObj.loop LoopState.busy _ _ _ _ _ _ _)=bz
  have hA:(V.set (oid Hp.length 4) bz)[oid Hp.length 2]? = some (AObj.cells 52 [AV.slice true 2 ((Mj (stP p c) (Nm p c) rows k).map Eo)]):=by rw [Bk (Bf (by decide))];exact hA0
  have hB:(V.set (oid Hp.length 4) bz)[oid Hp.length 0]? = some (AObj.cells 52 [AV.nil]):=by rw [Bk (Bf (by decide))];exact hB0
  have hC:(V.set (oid Hp.length 4) bz)[oid Hp.length 1]? = some (AObj.cells 38 [A3 0]):=by rw [Bk (Bf (by decide))];exact hC0
  refine py ?_;refine A2 [3,6,7,8,9,10,40] ?_
  refine A4 (fun ht40=>?_) (fun ht40=>?_)
  ·refine Z2 ?_
   refine Cx jS hB ?_ ?_
   ·simp
   refine Cx jS (AQr hC (Bf (by decide))) ?_ ?_
   ·simp
   refine xm ?_
   subst hbz
   refine xz ?_
   refine ⟨Hp++[AObj.cells 52 [AV.nil],AObj.cells 38 [A3 (stP p c y).2],AObj.cells 52 [AV.slice true 2 ((Mj (stP p c) (Nm p c) rows k).map Eo)],AObj.defs,_],?_,by simp,(fun x hx=>by rw [Ai];exact hOl (lp:=_) (by exact ⟨hFRl,by simp [oid]⟩) x hx),.inr ⟨_,_,rfl,AIs hk hN hne⟩⟩
   subst hV
   simp only [Ax,Cp,Dh,D9,List.set_cons_succ,List.set_cons_zero]
  exact absurd hne (by simpa using ht40)
 ·generalize hV:Hp++[AObj.cells 52 [AV.nil],AObj.cells 38 [A3 0],AObj.cells 52 [AV.slice true 2 ((Mj (stP p c) (Nm p c) rows k).map Eo)],AObj.defs,AObj.loop LoopState.ready none FR 52 #[37,38] as' bd' (oid Hp.length 3)]++X=V
  have hL:V[oid Hp.length 4]? = some (AObj.loop LoopState.ready none FR 52 #[37,38] as' bd' (oid Hp.length 3)):=by rw [←hV,Ax,Ar];rfl
  have hA0:V[oid Hp.length 2]? = some (AObj.cells 52 [AV.slice true 2 ((Mj (stP p c) (Nm p c) rows k).map Eo)]):=by rw [←hV,Ax,Ar];rfl
  have hB0:V[oid Hp.length 0]? = some (AObj.cells 52 [AV.nil]):=by rw [←hV,Ax,Ar];rfl
  have hC0:V[oid Hp.length 1]? = some (AObj.cells 38 [A3 0]):=by rw [←hV,Ax,Ar];rfl
  refine J8 (pd:=none) (fr:=FR) (sz:=52) (ps:=#[37,38]) (df:=oid Hp.length 3) (asg:=as') (bd:=bd') hL rfl (by decide) (fun d=>?_)
  subst hFR has hbd
  refine Fo [3,6,7,8,37,38] ?_;refine bo ?_;refine A2 [3,6,7,8,9,38] ?_;refine Z50 ?_;refine A2 [3,6,7,8,9,10] ?_
  refine ⟨rfl,none,hL,?_⟩
  generalize hbz:(AObj.loop LoopState.busy _ _ _ _ _ _ _)=bz
  have hA:(V.set (oid Hp.length 4) bz)[oid Hp.length 2]? = some (AObj.cells 52 [AV.slice true 2 ((Mj (stP p c) (Nm p c) rows k).map Eo)]):=by rw [Bk (Bf (by decide))];exact hA0
  have hB:(V.set (oid Hp.length 4) bz)[oid Hp.length 0]? = some (AObj.cells 52 [AV.nil]):=by rw [Bk (Bf (by decide))];exact hB0
  have hC:(V.set (oid Hp.length 4) bz)[oid Hp.length 1]? = some (AObj.cells 38 [A3 0]):=by rw [Bk (Bf (by decide))];exact hC0
  refine py ?_;refine A2 [3,6,7,8,9,10,40] ?_
  refine A4 (fun ht40=>?_) (fun ht40=>?_)
  ·simp at ht40
  refine l6 ?_;refine AGq ?_
  refine E6 jU Tryz.type58 ?_ ?_ ?_
  ·have hwl:=hw.len;have:=nt (h:=stP p c) (g:=Nm p c) (rows:=rows) k;simp [Tryz.t58];omega
  ·have hwl:=hw.len;have:=nt (h:=stP p c) (g:=Nm p c) (rows:=rows) k;simp [Tryz.t58];omega
  refine Gm jS (getset hA) ?_ ?_
  ·exact f8
  refine A2 [3,8] ?_;refine F0 ?_
  refine A5 (h:=Bd (getset (getset hA))) (hr:=?_)
  refine Z68 ?_;refine A2 [50] ?_
  refine A4 (fun ht50=>?_) (fun ht50=>?_)
  ·refine cq ?_;refine K.blO (by decide) ?_
   subst hbz
   refine K.rdE (cy hL (Bf (by decide)) (Bf (by decide))) ?_
   refine .inr ⟨rfl,Hp++[AObj.cells 52 [AV.nil],AObj.cells 38 [A3 0],AObj.cells 52 [AV.slice true 2 ((Mj (stP p c) (Nm p c) rows (k+1)).map Eo)],AObj.defs,_],?_,by simp,(fun x hx=>by rw [Ai];exact hOl (lp:=_) (by exact ⟨hFRl,by simp [oid]⟩) x hx),.inl ⟨_,_,rfl,.inr rfl,AIt hk hN he0 hf (by simpa using ht50)⟩⟩
   subst hV
   simp only [Ax,Cp,Dh,D9,List.set_cons_succ,List.set_cons_zero]
   rw [Xh hk hf,Bj]
   rfl
  refine px ?_
  subst hbz
  refine xy ?_
  refine .inl ⟨rfl,AMg hk hN he0 hf (by simpa using ht50),?_⟩
  subst hV
  simp only [Ax,Cp,Dh,D9,List.set_cons_succ,List.set_cons_zero]
  rw [Xh hk hf,Bj]
  rfl
 rintro r H' (⟨o,lp,rfl,rfl|rfl,hrun⟩|⟨e,k,rfl,hrun⟩)
 ·refine ⟨Hp,_,_,_,rfl,rfl,fun h=>h,?_,rfl,by simp,?_⟩
  ·intro o ho
   have:o=oid Hp.length 3:=by simpa using ho
   subst this
   rw [Ar]
   rfl
  refine xt ?_;exact ANf
 ·refine ⟨Hp,_,_,_,rfl,rfl,fun h=>h,?_,rfl,by simp,?_⟩
  ·intro o ho
   have:o=oid Hp.length 3:=by simpa using ho
   subst this
   rw [Ar]
   rfl
  refine cq ?_;refine AC9 ?_;refine Z82 ?_;exact ANf
 refine ⟨Hp,_,_,_,rfl,rfl,fun h=>h,?_,rfl,by simp,?_⟩
 ·intro o ho
  have:o=oid Hp.length 3:=by simpa using ho
  subst this
  rw [Ar]
  rfl
 refine Uz 0 2 ?_;refine bn ?_;exact A9 (B1 (Dw jA) (Dw jA)) ⟨by rw [hy,hrun];rfl,rfl⟩

theorem AJl {rows:List Row} (h:Rx rows=false) (hg:∀x∈rows,∀v∈x.l, -9223372036854775808≤v.n∧v.n≤9223372036854775807):RW rows∧rows.length≤60:=by
 unfold Rx at h
 simp only [Ei,decide_eq_false_iff_not] at h
 obtain ⟨h1,h2⟩:=h
 refine ⟨⟨by omega,fun x hx=>⟨?_,hg x hx⟩⟩,by omega⟩
 have h3:=Iz.1 h2 x hx
 exact AF4 (by simpa using h3)
theorem AAt {q:Qry} {c:List Col} {rows:List Row} (hw:RW rows) (hq:q.cols.length≤1048576) (k:Nat):∀x∈Hn q c rows k,x.l.length≤1048576:=by
 intro x hx
 unfold Hn at hx
 obtain ⟨y,hy,rfl⟩:=C2.1 hx
 have h1:=(hw.each y (O4 (O3.1 hy).1)).1
 unfold Ku
 show (if q.all=true then y.l else q.cols.map _).length≤1048576
 split
 ·exact h1
 rw [Ah];exact hq
theorem bc {q:Qry} {c:List Col} {rows:List Row}:∀(r:List Row) (k:Nat),rows.drop k=r→(Nl q c r (Hn q c rows k)).1=[]∨∃j,(Nl q c r (Hn q c rows k)).1=Hn q c rows j
 | [],k,_=>.inr ⟨k,rfl⟩
 | x::r,k,hk=>by
  have hx:rows[k]? = some x:=by
   have:(rows.drop k)[0]? = some x:=by rw [hk];rfl
   simpa using this
  have hr:rows.drop (k+1)=r:=by
   have:=Ue hx
   rw [hk] at this
   injection this with _ h
   exact h.symm
  rw [Nl]
  split
  ·exact .inl rfl
  split
  ·rename_i h1
   have e:=Ud hx h1
   split
   ·exact .inr ⟨k+1,e.symm⟩
   rw [←e];exact bc r (k+1) hr
  rename_i h1
  rw [←Vt hx (by simpa using h1)]
  exact bc r (k+1) hr
theorem AJm {q:Qry} {c:List Col} {rows:List Row} (hw:RW rows) (hq:q.cols.length≤1048576):(Vo q c rows).1.length≤rows.length∧∀x∈(Vo q c rows).1,x.l.length≤1048576:=by
 unfold Vo
 split
 ·exact ⟨Au _,fun x hx=>by cases hx⟩
 rcases bc (q:=q) (c:=c) (rows:=rows) rows 0 rfl with h|⟨j,h⟩
 ·rw [show ([]:List Row)=Hn q c rows 0 from rfl,h]
  exact ⟨Au _,fun x hx=>by cases hx⟩
 rw [show ([]:List Row)=Hn q c rows 0 from rfl,h]
 exact ⟨am _ _ _ _,AAt hw hq j⟩
theorem AJn {q:Qry} {c:List Col} {l:List Expr} (hq:QW q) (ht:TOk l) (hl:l.length≤1048576):PW (Kx q c l).1:=by
 have h1:(∀e∈Jk q c l,okE 61 e∧Dy Ge e=true)∧(Jk q c l).length≤1048576:=by
  unfold Jk
  split
  ·exact ⟨fun e he=>⟨ht.ok e he,ht.rng e he⟩,hl⟩
  refine ⟨fun e he=>?_,by rw [Ah];exact hq.len⟩
  obtain ⟨s,_,rfl⟩:=C2.1 he
  unfold Lc
  rw [Bv]
  cases hx:l[(Ay s c).toNat]? with
  | none=>exact ⟨Ts (by decide),by kernel_rfl⟩
  | some y=>exact ⟨ht.ok y (Aw hx),ht.rng y (Aw hx)⟩
 have h0:okE 61 Av∧Dy Ge Av=true:=⟨Ts (by decide),by kernel_rfl⟩
 unfold Kx
 split
 ·exact ⟨h0.1,h0.2,fun e he=>(h1.1 e he).1,fun e he=>(h1.1 e he).2,h1.2⟩
 split
 ·exact ⟨h0.1,h0.2,(fun e he=>by cases he),(fun e he=>by cases he),Au _⟩
 rename_i h2
 have:=nb hq.ok hq.rng ht (by simpa using h2)
 exact ⟨this.1,this.2.1,fun e he=>(h1.1 e he).1,fun e he=>(h1.1 e he).2,h1.2⟩
theorem AMw {q:Qry} {c:List Col} {l:List Mov} (hq:QW q) (hc:OkCols c) (h:OkMovs l) (h0:(Hm q c l).2=0):PW (Hm q c l).1:=by
 obtain ⟨hL,_,hF,e⟩:=od h0
 have eb:=ju (ar false hL)
 have hb:=aq l c hc (fun m hm=>h.each m hm) (by rw [←eb];exact hF)
 rw [←eb] at hb
 rw [e]
 exact AJn hq hb.tok (by rw [hb.len];exact hc.len)
theorem AJo {c:List Col} {l:List Mov} {rows:List Row} (hc:OkCols c) (h:OkMovs l) (hw:RW rows) (hf:∀x∈rows,(Ek c l x.l).2=0):RW (rows.map (wi c l)):=by
 refine ⟨by rw [Ah];exact hw.len,fun y hy=>?_⟩
 obtain ⟨x,hx,rfl⟩:=C2.1 hy
 obtain ⟨⟨_,_,_,hR⟩,_,_⟩:=ba h (hw.each x hx).2 (hf x hx)
 exact ⟨by show (Ek c l x.l).1.length≤1048576;rw [hR.len];exact (E4 hc (fun m hm=>h.each m hm) _).len,Ua hR.fine⟩
theorem AJp {α:Type} {l:List α} {i:Nat} {p:α→Prop} (hi:l.length≤i) (h:∀(j:Nat) (y:α),j<i→l[j]? = some y→p y):∀x∈l,p x:=fun x hx=>by
 obtain ⟨j,hj⟩:=Cb hx
 exact h j x (by have:=(Ad.1 hj).1;omega) hj
theorem AG2 {c:List Col} {l:List Mov} {row:List Val} (h:P2 c l row=true):(Ek c l row).2=0:=by
 unfold P2 at h
 split at h
 ·cases h
 rename_i h1;simpa using h1
theorem c6r (q:Qry) (hg:Dy Ge q.whr=true) (c:List Col) (l:List Mov) (hrl:∀m∈l,RngMv m) (rows:List Row) (hgr:∀x∈rows,∀v∈x.l, -9223372036854775808≤v.n∧v.n≤9223372036854775807) (Hp:List AObj):AFun Tryz.prog 6 [Rl q,Am c,Eh l,Hu rows] Hp (B4 true):=by
 refine Ae [.tmp 8] [0,1,2,3] Tryz.func6 Tryz.ntmps6 (fun d=>?_)
 refine Z1 ?_;refine A2 [1,2,3,4] ?_;refine Z43 ?_;refine A7 Tryz.call7 (c7 _) ?_;refine A5 ?_;refine A2 [1,2,3,4,22] ?_
 refine A4 (fun ht22=>?_) (fun ht22=>?_)
 ·cases ht22
 refine Ri ?_;refine A7 Tryz.call8 (c8 q _) ?_;refine A5 ?_;refine Cw ?_;refine Ca Tryz.call9 (fun hB=>c6u c _) ?_;refine Rg ?_;refine Ca Tryz.call10 (fun hB=>c10 l _) ?_;refine Rg ?_;refine Ca Tryz.call19 (fun hB=>c19 rows _) ?_;refine A5 ?_;refine A2 [1,2,3,4,36] ?_
 refine A4 (fun ht36=>?_) (fun ht36=>?_)
 ·refine Z2 ?_;refine A2 [8] ?_;exact AOb
 have hw:((U5 q=false∧Mu c=false)∧Jh l=false)∧Rx rows=false:=by simpa using ht36
 have hq:=AQe hw.1.1.1 hg
 have hc:=uw hw.1.1.2
 have hc2:c.length≤1000000:=AFq hw.1.1.2
 have h:OkMovs l:=fj hw.1.2 hrl
 obtain ⟨hwR,hr60⟩:=AJl hw.2 hgr
 refine Z3 ?_;refine Z41 ?_;refine Oj ?_;refine A2 [1,2,3,4,9] ?_;refine Z33 ?_;refine A2 [1,2,3,4,9,10] ?_
 refine Bi (α:=Nat) (fun i=>⟨115,A6 1 (Am c) (A6 2 (Eh l) (A6 3 (Hu rows) (A6 4 (.ro (qoC false q)) (A6 9 (.slice true 2 (((rows.take i).map (wi c l)).map Eo)) (A6 10 (A3 (i:Nat)) (fun _=>.any)))))),Hp,[],[],none⟩) (fun i=>i≤rows.length∧∀(j:Nat) (y:Row),j<i→rows[j]? = some y→(!(P2 c l y.l))=false) (fun i=>rows.length-i) (0) ⟨Au _,fun j y h=>by omega⟩ (Bo (by simp)) rfl (fun i hi=>?_)
 refine Z79 ?_;refine A2 [1,2,3,4,9,10,41] ?_
 refine A4 (fun ht41=>?_) (fun ht41=>?_)
 ·have hlt:i<rows.length:=by simpa using ht41
  refine Tg ?_;refine Z79 ?_
  refine A5 (h:=Ag (i) (Eo rows[i]) (fun _=>B7 hlt)) (hr:=?_)
  refine Z0 ?_;refine A7 Tryz.call28 (c28 c hc hc2 l h rows[i].l (hwR.at hlt).2 (hwR.at hlt).1 _) ?_;refine A5 ?_;refine A2 [1,2,3,4,9,10,52] ?_
  refine A4 (fun ht52=>?_) (fun ht52=>?_)
  ·refine Z2 ?_;refine A2 [8] ?_;refine Z34 ?_;refine Z48 ?_;exact AH1
  refine Y6 ?_
  refine A5 (h:=Ag (i) (Eo rows[i]) (fun _=>B7 hlt)) (hr:=?_)
  refine Z0 ?_;refine A7 Tryz.call20 (c20 c hc hc2 l h rows[i].l (hwR.at hlt).2 (hwR.at hlt).1 _) ?_;refine Z59 ?_;refine A2 [1,2,3,4,9,10,11] ?_;refine bi ?_;refine Z0 ?_
  refine A5 (h:=Ag (i) (Eo rows[i]) (fun _=>B7 hlt)) (hr:=?_)
  refine Z12 ?_;refine lb ?_;refine Ti ?_
  refine E6 jU Tryz.type58 ?_ ?_ ?_
  ·simp only [Ah,C1,B0,Bu,Tryz.t58];omega
  ·simp only [Ah,C1,B0,Bu,Tryz.t58];omega
  refine Oj ?_;refine A2 [1,2,3,4,9,10] ?_;refine Z13 ?_;refine Z49 ?_;refine A2 [1,2,3,4,9,10] ?_;refine Bt (i+1) ⟨hlt,Di hlt hi.2 ht52⟩ (by omega) ?_;exact Dx (by simp only [Ty hlt,Bj,Bm,Dc];rfl)
 have hxe:rows.length≤i:=by simpa using ht41
 rw [E9 hxe]
 have hf:=AJp hxe hi.2
 have hx:∀x∈rows,(∀v∈x.l, -9223372036854775808≤v.n∧v.n≤9223372036854775807)∧P2 c l x.l=true:=fun x hx=>⟨hgr x hx,by simpa using hf x hx⟩
 have hwN:=AJo hc h hwR (fun x hx'=>AG2 (hx x hx').2)
 refine Th ?_;refine Z15 ?_;refine A7 Tryz.call12 (AUa q hq c hc hc2 l h _) ?_;refine Rf ?_;refine A2 [1,2,3,4,9,13,14] ?_;refine Z1 ?_;refine A7 Tryz.call21 (c21 c hc hc2 l h _) ?_;refine Z59 ?_;refine A2 [1,3,4,9,13,14,15,16] ?_;refine Z29 ?_;refine ip ?_;refine A2 [1,3,4,9,13,15,92] ?_
 refine A4 (fun ht92=>?_) (fun ht92=>?_)
 ·refine Z2 ?_;refine A2 [8] ?_;exact AOb
 have h85:(Hm q c l).2=0∧(Fl c l).2=0:=by simpa using ht92
 have h0:=h85.1
 obtain ⟨hs,hB⟩:=jv hc h (by rw [h85.2];rfl)
 have hpw:=AMw hq hc h h0
 have hfa:=AJm (q:=q) (c:=c) hwR hq.len
 have hfa:(Vo q c rows).1.length≤1048576∧_:=⟨by omega,hfa.2⟩
 refine Q4 ?_;refine A7 Tryz.call22 (c22 (Hm q c l).1 hpw (Fl c l).1 hB (rows.map (wi c l)) hwN _) ?_;refine Z59 ?_;refine A2 [1,3,4,17,18] ?_;refine Z15 ?_;refine A7 Tryz.call23 (c23 q hq c hc rows hwR _) ?_;refine Z59 ?_;refine A2 [17,18,19,20] ?_;refine F0 ?_
 rw [AMs hc h hx h0 hs]
 refine Z0 ?_;refine Z38 ?_;refine Ca Tryz.call24 (fun hB=>c24 (Vo q c rows).1 (Vo q c rows).1 hfa.1 hfa.2 _) ?_;refine Z0 ?_;refine A2 [8] ?_;refine Fc ?_;exact AH1

end Go.SX.Nb
namespace Go.Proofs.YtekiioamifokoaaGreatDoor
open Go Go.SX Go.SX.Nb Go.ChangeShapes Go.RowKit
set_option maxRecDepth 100000
theorem AAu:Tryz.pinned.checked.prog.funcNamed Rows.rewriteBackRow.func=some 6:=by kernel_rfl
theorem AJq:laidOutB Tryz.pinned.checked.prog=true:=by kernel_rfl
theorem AJr:(Rows.rewriteBackRow.inPlace==Tryz.pinned.checked.prog.inPlace 6)=true:=by kernel_rfl
theorem AJs:(Rows.rewriteBackRow.unfollowed==Tryz.pinned.checked.prog.unfollowed 6)=true:=by kernel_rfl
theorem AJt:(Rows.rewriteBackRow.recurses==Tryz.pinned.checked.prog.recurses 6)=true:=by kernel_rfl
theorem AJu:(Rows.rewriteBackRow.named==Tryz.pinned.checked.prog.varsNamed 6)=true:=by kernel_rfl
theorem AJv:Tryz.pinned.checked.prog.mayEnter=true:=by kernel_rfl
theorem tg:joinedFacts Tryz.pinned.checked.prog 6 Tryz.f6 (OpenSpec.ofChange Rows.rewriteBackSpec).bare Rows.rewriteBackRow=true:=by
 unfold joinedFacts
 rw [AJq,AJr,AJs,AJt,AJu,AJv]
 kernel_rfl
theorem AAv:false=Rows.rewriteBackRow.goesBy Tryz.pinned.checked.prog:=by kernel_rfl
theorem AAw:Tryz.f6.isInstance Tryz.pinned.checked.prog Rows.rewriteBackRow.origin Rows.rewriteBackRow.targs:=of_decide_eq_true (by kernel_rfl)
theorem AAx:Tryz.f6.isWrapper Tryz.pinned.checked.prog Rows.rewriteBackRow.wrapper Rows.rewriteBackRow.mainSum:=by
 unfold Func.isWrapper
 first|(rw [if_pos (by decide +kernel)];kernel_rfl)|(rw [if_neg (by decide +kernel)];exact ⟨rfl,rfl⟩)
end Go.Proofs.YtekiioamifokoaaGreatDoor
