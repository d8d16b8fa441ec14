/- On the way (part 11). -/
import Derived.Test.YtejjpdbfdmdgpaaGreatDoorImageBackCardSaidPart10
set_option linter.all false
namespace Go.SX.Nb
open Go Go.SX Go.Proofs
variable [ErrAt]
set_option maxRecDepth 4000
abbrev pmO (L:List Tok) (i:Nat):AObj:=.cells 70 [vn L,A5 (i:Int)]
abbrev mvC (m:Mov):List AV:=[A5 m.kind,.slice true 1 (m.take.map Af),.slice true 2 (m.give.map Bj),.slice true 6 (m.ahead.map Ab),.slice true 6 (m.back.map Ab)]
abbrev mvO (m:Mov):AObj:=.cells 54 (mvC m)
abbrev Rt:AV:=.v (.tuple #[])
theorem Ex {n:Nat} {L:List Tok} {i:Nat}:ObjLow n (pmO L i):=by
 show ∀y∈[AV.slice false 3 (L.map Mm),A5 (i:Int)],Low n y
 intro y hy
 simp only [Bu,I3,or_false] at hy
 rcases hy with rfl|rfl
 ·simp [or_imp,forall_and]
 simp
/-- A contract of the parser, of sources that are right: it comes to what the model comes to. -/
structure CP (g:FuncId) (args:List AV) (H:List AObj) {α:Type} (X:PR α) (Q:α→Nat→AV→List AObj→Prop) (R:List AObj→Prop):Prop where
 run:(∃c j,X=.ok c j)→ACall Tryz.prog g args H (fun r H'=>∃c j,X=.ok c j∧Q c j r H')
theorem CP.ok {g:FuncId} {args:List AV} {H:List AObj} {α:Type} {X:PR α} {Q:α→Nat→AV→List AObj→Prop} {R:List AObj→Prop} {c:α} {j:Nat} (h:CP g args H X Q R) (hX:X=.ok c j):ACall Tryz.prog g args H (fun r H'=>Q c j r H'):=
 (h.run ⟨c,j,hX⟩).mono (fun r H' ⟨c',j',e,hq⟩=>by rw [hX] at e;injection e with e1 e2;subst e1;subst e2;exact hq)
theorem Dk {α:Type} {X:PR α} {e a:Int} (h:∃c j,X=.ok c j) (hX:X=.bad e a):False:=by
 obtain ⟨c,j,h⟩:=h
 rw [hX] at h
 cases h
def PR.isOk {α:Type}:PR α→Bool
 | .ok _ _=>true
 | .bad _ _=>false
theorem ASc {α:Type} {X:PR α} (h:X.isOk=true):∃c j,X=.ok c j:=by
 cases X with
 | ok c j=>exact ⟨c,j,rfl⟩
 | bad e a=>cases h
/-- The parser's object alone has turned. -/
def W1 (L:List Tok) (o:Nat) (Hp H':List AObj):Prop:=∃j,H'=Hp.set o (pmO L j)
theorem c64 (L:List Tok) (i o:Nat) (Hp:List AObj) (ho:Hp[o]? = some (pmO L i)) (hi:i<L.length):AFun Tryz.prog 64 [.ptr o 0] Hp (Mm (Aq L i)):=by
 refine Ah [.cell 2 103] [0] Tryz.func64 Tryz.ntmps64 (fun d=>?_)
 refine APt ?_;refine Z40 ?_
 refine Ak (h:=Cm ho) (hr:=?_)
 refine Z40 ?_
 refine Ak (h:=Cm ho) (hr:=?_)
 refine J0 ?_
 refine A4 (h:=Ac (i) (Mm (Aq L i)) (fun _=>Zo hi)) (hr:=?_)
 refine A4 ?_;exact AD3

theorem ASd (L:List Tok) (s:Str) (i o:Nat) (Hp:List AObj) (ho:Hp[o]? = some (pmO L i)) (hi:i<L.length):AFun Tryz.prog 129 [.ptr o 0,Af s] Hp (B4 (isP L s i)):=by
 refine Ah [.tmp 4] [0,1] Tryz.func129 Tryz.ntmps129 (fun d=>?_)
 refine Z61 ?_;refine AM3 ?_;refine Z20 ?_;refine A2 [1,5] ?_;refine Z25 ?_;refine Xb ?_;refine Z7 ?_;exact AHp

/-! Where the parser of moves comes to. -/
def PR.In {α:Type} (x:PR α) (i n:Nat):Prop:=∀r j,x=.ok r j→i<j∧j<n
theorem PR.bind_ok {α β:Type} {x:PR α} {f:α→Nat→PR β} {r:β} {j:Nat} (h:x.bind f=.ok r j):∃a k,x=.ok a k∧f a k=.ok r j:=by
 cases x with
 | ok a k=>exact ⟨a,k,rfl,h⟩
 | bad e a=>cases h
theorem AK7 {L:List Tok} {s:Str} {i:Nat} (h:isP L s i=true):(Aq L i).kind≠0:=by
 unfold isP at h
 simp only [As,Co,beq_iff_eq] at h
 rcases h.1 with h|h<;>rw [h]<;>decide
theorem Hq {L:List Tok} (hl:TokEnd L) {s:Str} {i:Nat} (hi:i<L.length):(Dl L s i).In i L.length:=by
 intro r j h
 unfold Dl at h
 split at h
 ·rename_i h1
  injection h with _ h
  subst h
  exact ⟨i5 i,hl.step hi (AK7 h1)⟩
 cases h
theorem Jr {L:List Tok} (hl:TokEnd L) {i:Nat} (hi:i<L.length):(Im L i).In i L.length:=by
 intro r j h
 unfold Im at h
 split at h
 ·cases h
 rename_i h1
 injection h with _ h
 subst h
 have hk:(Aq L i).kind=1:=by simpa using h1
 exact AQu
theorem AK8 {L:List Tok} (hl:TokEnd L) {nm:Str} {i:Nat} (hi:i<L.length):(xc L nm i).In i L.length:=by
 intro r j h
 unfold xc at h
 split at h
 ·cases h
 rename_i h1
 injection h with _ h
 subst h
 have hk:(Aq L i).kind=2:=by simp only [Uq,Cq,bne_eq_false_iff_eq] at h1;exact h1.1
 exact AQu
theorem g7 {L:List Tok} (hl:TokEnd L) {i:Nat} (hi:i<L.length):(Ly L i).In i L.length:=by
 intro r j h
 obtain ⟨a,k,h1,h2⟩:=PR.bind_ok h
 obtain ⟨a1,a2⟩:=Jr hl hi _ _ h1
 obtain ⟨b1,b2⟩:=AK8 hl a2 _ _ h2
 exact ⟨by omega,b2⟩
theorem Ul {L:List Tok} (hl:TokEnd L) (hll:L.length≤500000) {i:Nat} (hi:i<L.length) {x:Expr} {k:Nat} (h:P7 L i=.ok x k):i≤k∧k<L.length:=by
 unfold P7 at h
 split at h
 ·cases h
 rename_i h0
 injection h with _ h
 subst h
 have h0:(atM L i).2.2.1=0:=by simpa using h0
 have hq:=al hl (by omega:L.length≤1048576) hi
 unfold atM at h0 ⊢
 split at h0
 ·rename_i h1
  have:(atS L i (atR L i)).code=0:=h0
  rw [this] at h1
  cases h1
 rename_i h1
 rw [if_neg h1]
 have e:(atS L i (atR L i)).i=(atR L i).2.i:=by
  unfold atS
  repeat' split
  all_goals first|rfl|exact failM_i.1
 show i≤((atS L i (atR L i)).i:Int).toNat∧((atS L i (atR L i)).i:Int).toNat<_
 rw [Int.toNat_natCast,e]
 exact ⟨hq.le,hq.lt⟩
/-- A move has no more parts than so many. -/
structure MvLe (m:Mov) (n:Nat):Prop where
 take:m.take.length≤n
 give:m.give.length≤n
 ahead:m.ahead.length≤n
 back:m.back.length≤n
theorem MvLe.mono {m:Mov} {i j:Nat} (h:MvLe m i) (hij:i≤j):MvLe m j:=⟨Ir h.take hij,Ir h.give hij,Ir h.ahead hij,Ir h.back hij⟩
/-- What a part of a move comes to. -/
def ANs (x:PR Mov) (i n:Nat):Prop:=∀m j,x=.ok m j→i≤j∧j<n∧MvLe m (2*j)
/-- A part of a move that goes on from i. -/
def dh (L:List Tok) (one:Mov→Nat→PR Mov):Prop:=∀m i,MvLe m (2*i-1)→0<i→i<L.length→ANs (one m i) i L.length
theorem N8 {L:List Tok} (hl:TokEnd L) (hll:L.length≤500000):dh L (G8 L):=by
 intro m i hm _ hi m' k h
 obtain ⟨c,j,h1,h2⟩:=PR.bind_ok h
 obtain ⟨u,j2,h3,h4⟩:=PR.bind_ok h2
 obtain ⟨x,j3,h5,h6⟩:=PR.bind_ok h4
 injection h6 with h6 h7
 subst h6;subst h7
 have a1:=g7 hl hi _ _ h1
 have a2:=Hq hl a1.2 _ _ h3
 have a3:=Ul hl hll a2.2 h5
 obtain ⟨b1,b2,b3,b4⟩:=hm
 exact ⟨by omega,a3.2,by show m.take.length≤_;omega,by show (m.give++[c]).length≤_;rw [Ao,Kf];omega,by show (m.ahead++[x]).length≤_;rw [Ao,Kf];omega,by show m.back.length≤_;omega⟩
theorem pk {L:List Tok} (hl:TokEnd L) (hll:L.length≤500000):dh L (Wy L):=by
 intro m i hm h0 hi m' k h
 obtain ⟨x,j,h1,h2⟩:=PR.bind_ok h
 injection h2 with h6 h7
 subst h6;subst h7
 have a3:=Ul hl hll hi h1
 obtain ⟨b1,b2,b3,b4⟩:=hm
 exact ⟨by omega,a3.2,by show m.take.length≤_;omega,by show m.give.length≤_;omega,by show m.ahead.length≤_;omega,by show (m.back++[x]).length≤_;rw [Ao,Kf];omega⟩
theorem bv {L:List Tok} (hl:TokEnd L):dh L (Uk L):=by
 intro m i hm _ hi m' k h
 obtain ⟨s,j,h1,h2⟩:=PR.bind_ok h
 injection h2 with h6 h7
 subst h6;subst h7
 have a1:=Jr hl hi _ _ h1
 obtain ⟨b1,b2,b3,b4⟩:=hm
 exact ⟨by omega,a1.2,by show (m.take++[s]).length≤_;rw [Ao,Kf];omega,by show m.give.length≤_;omega,by show m.ahead.length≤_;omega,by show m.back.length≤_;omega⟩
theorem Oy {L:List Tok} {s:Str} {i:Nat} {u:Unit} {j:Nat} (h:Dl L s i=.ok u j):j=i+1:=by
 unfold Dl at h
 split at h
 ·injection h with _ h;exact h.symm
 cases h
theorem pl {L:List Tok} (hl:TokEnd L) {n:Int} {one:Mov→Nat→PR Mov} (hP:dh L one):∀(f k:Nat) (m:Mov) (i:Nat),MvLe m (2*i)→0<i→i<L.length→ANs (Uj L n one f k m i) i L.length
 | 0,k,m,i,hm,h0,hi=>fun m' j h=>by
  injection h with h1 h2
  subst h1;subst h2
  exact ⟨Aj _,hi,hm⟩
 | f+1,k,m,i,hm,h0,hi=>fun m' j h=>by
  rw [Uj] at h
  split at h
  ·obtain ⟨u,j1,h1,h2⟩:=PR.bind_ok h
   obtain ⟨m1,j2,h3,h4⟩:=PR.bind_ok h2
   have e:=Oy h1
   have a1:=Hq hl hi _ _ h1
   obtain ⟨b1,b2,b3⟩:=hP m j1 (hm.mono (by omega)) (by omega) a1.2 _ _ h3
   obtain ⟨c1,c2,c3⟩:=pl hl hP f (k+1) m1 j2 b3 (by omega) b2 _ _ h4
   exact rz
  injection h with h1 h2
  subst h1;subst h2
  exact ⟨Aj _,hi,hm⟩
theorem Um {L:List Tok} (hl:TokEnd L) {n:Int} {one:Mov→Nat→PR Mov} (hP:dh L one):dh L (Jp L n one):=by
 intro m i hm h0 hi m' k h
 obtain ⟨m1,j,h1,h2⟩:=PR.bind_ok h
 obtain ⟨b1,b2,b3⟩:=hP m i hm h0 hi _ _ h1
 obtain ⟨c1,c2,c3⟩:=pl hl hP _ _ m1 j b3 (by omega) b2 _ _ h2
 exact rz
theorem Y4 {L:List Tok} (hl:TokEnd L) (hll:L.length≤500000) {m:Mov} {i:Nat} (hm:MvLe m (2*i)) (hi:i<L.length):ANs (Ha L m i) i L.length:=by
 intro m' k h
 obtain ⟨u,j,h1,h2⟩:=PR.bind_ok h
 have e:=Oy h1
 have a1:=Hq hl hi _ _ h1
 obtain ⟨c1,c2,c3⟩:=Um hl (pk hl hll) m j (hm.mono (by omega)) (by omega) a1.2 _ _ h2
 exact rz
theorem ABi {L:List Tok} (hl:TokEnd L):dh L (Lz L):=by
 intro m i hm h0 hi m' k h
 obtain ⟨s,j,h1,h2⟩:=PR.bind_ok h
 obtain ⟨u,j2,h3,h4⟩:=PR.bind_ok h2
 obtain ⟨t,j3,h5,h6⟩:=PR.bind_ok h4
 injection h6 with h6 h7
 subst h6;subst h7
 have a1:=Jr hl hi _ _ h1
 have a2:=Hq hl a1.2 _ _ h3
 have a3:=Jr hl a2.2 _ _ h5
 exact ⟨by omega,a3.2,by show 1≤_;omega,by show 1≤_;omega,by show 1≤_;omega,by show 1≤_;omega⟩
theorem MvLe.takeS {m:Mov} {n:Nat} (h:MvLe m n) {s:Str} (h1:1≤n):MvLe (takeS m s) n:=⟨h1,h.give,h.ahead,h.back⟩
theorem xg {L:List Tok} (hl:TokEnd L) (hll:L.length≤500000):dh L (Jq L):=by
 intro m i hm h0 hi m' k h
 unfold Jq at h
 split at h
 ·exact N8 hl hll m i hm h0 hi _ _ h
 split at h
 ·obtain ⟨s,j,h1,h2⟩:=PR.bind_ok h
  have a1:=Jr hl hi _ _ h1
  obtain ⟨c1,c2,c3⟩:=Y4 hl hll ((hm.mono (by omega:2*i-1≤2*j)).takeS (by omega)) a1.2 _ _ h2
  exact rz
 split at h
 ·exact ABi hl m i hm h0 hi _ _ h
 split at h
 ·obtain ⟨s,j,h1,h2⟩:=PR.bind_ok h
  obtain ⟨u,j2,h3,h4⟩:=PR.bind_ok h2
  obtain ⟨m1,j3,h5,h6⟩:=PR.bind_ok h4
  have a1:=Jr hl hi _ _ h1
  have a2:=Hq hl a1.2 _ _ h3
  obtain ⟨b1,b2,b3⟩:=Um hl (N8 hl hll) (takeS m s) j2 ((hm.mono (by omega:2*i-1≤2*j2-1)).takeS (by omega)) (by omega) a2.2 _ _ h5
  obtain ⟨c1,c2,c3⟩:=Y4 hl hll b3 b2 _ _ h6
  exact rz
 split at h
 ·obtain ⟨m1,j,h1,h2⟩:=PR.bind_ok h
  obtain ⟨u,j2,h3,h4⟩:=PR.bind_ok h2
  obtain ⟨m2,j3,h5,h6⟩:=PR.bind_ok h4
  obtain ⟨b1,b2,b3⟩:=Um hl (bv hl) m i hm h0 hi _ _ h1
  have e:=Oy h3
  have a2:=Hq hl b2 _ _ h3
  obtain ⟨d1,d2,d3⟩:=N8 hl hll m1 j2 (b3.mono (by omega)) (by omega) a2.2 _ _ h5
  obtain ⟨c1,c2,c3⟩:=Y4 hl hll d3 d2 _ _ h6
  exact rz
 split at h
 ·obtain ⟨m1,j,h1,h2⟩:=PR.bind_ok h
  obtain ⟨d1,d2,d3⟩:=N8 hl hll m i hm h0 hi _ _ h1
  obtain ⟨c1,c2,c3⟩:=Y4 hl hll (d3.takeS (by omega)) d2 _ _ h2
  exact rz
 injection h with h1 h2
 subst h1;subst h2
 exact ⟨Aj _,hi,hm.mono (by omega)⟩
def bw:=@PR.bind_ok
theorem c96 (L:List Tok) (s:Str) (i o:Nat) (Hp:List AObj) (ho:Hp[o]? = some (pmO L i)) (hi:i<L.length) (hll:L.length≤500000):CP 96 [.ptr o 0,Af s] Hp (Dl L s i) (fun _ j r H'=>r=Rt∧H'=Hp.set o (pmO L j)) (W1 L o Hp):=by
 refine ⟨fun hX=>?_⟩
 refine Ah [] [0,1] Tryz.func96 Tryz.ntmps96 (fun d=>?_)
 refine Z8 ?_;refine A9 Tryz.call129 (ASd L s i o _ (Ar ho) hi) ?_;refine A4 ?_;refine A2 [0,7] ?_
 refine A3 (fun ht7=>?_) (fun ht7=>?_)
 ·have hq:isP L s i=false:=by simpa using ht7
  have e:Dl L s i=.bad 8 (Aq L i).at_:=if_neg (by rw [hq];simp)
  exact ADx
 have hq:isP L s i=true:=by simpa using ht7
 have e:Dl L s i=.ok () (i+1):=if_pos hq
 refine Z4 ?_;refine Z23 ?_
 refine A4 (h:=Cm ho) (hr:=?_)
 refine Z10 ?_
 refine Gm jS ho ?_ ?_
 ·simp
 refine A2 [] ?_;exact Gn .nores (hp:=⟨(),i+1,e,rfl,rfl⟩)

theorem ABj (L:List Tok) (i o:Nat) (Hp:List AObj) (ho:Hp[o]? = some (pmO L i)) (hi:i<L.length) (hll:L.length≤500000):CP 123 [.ptr o 0] Hp (Im L i) (fun s j r H'=>r=Af s∧H'=Hp.set o (pmO L j)) (W1 L o Hp):=by
 refine ⟨fun hX=>?_⟩
 refine Ah [.tmp 2] [0] Tryz.func123 Tryz.ntmps123 (fun d=>?_)
 refine Z49 ?_;refine AM3 ?_;refine Z20 ?_;refine Oj ?_;refine Z33 ?_;refine A2 [0,3,8] ?_
 refine A3 (fun ht8=>?_) (fun ht8=>?_)
 ·have e:Im L i=.bad 8 (Aq L i).at_:=if_pos ht8
  exact ADx
 have e:Im L i=.ok (Aq L i).text (i+1):=if_neg (by rw [ht8];simp)
 refine No ?_
 refine A4 (h:=Cm ho) (hr:=?_)
 refine Z10 ?_
 refine Gm jS ho ?_ ?_
 ·simp
 refine A2 [3] ?_;refine Z19 ?_;refine Z3 ?_;exact A8 (Ae A7) (hp:=⟨_,i+1,e,rfl,rfl⟩)

theorem getset {Hp:List AObj} {o:Nat} {A B:AObj} (h:Hp[o]? = some A):(Hp.set o B)[o]? = some B:=by
 have:=(Ad.1 h).1
 simp [this]
theorem AVa (L:List Tok) (i o:Nat) (Hp:List AObj) (ho:Hp[o]? = some (pmO L i)) (hi:i<L.length) (hl:TokEnd L) (hll:L.length≤500000):CP 161 [.ptr o 0] Hp (Ly L i) (fun c j r H'=>r=Bj c∧H'=Hp.set o (pmO L j)) (W1 L o Hp):=by
 refine ⟨fun hX=>?_⟩
 refine Ah [.cell 2 36] [0] Tryz.func161 Tryz.ntmps161 (fun d=>?_)
 refine Z67 ?_
 rcases hN:Im L i with ⟨s,j⟩|⟨e,a⟩
 rotate_left
 ·exact (Dk hX (by first|exact by unfold Ly;rw [hN];rfl|exact hN)).elim
 have hj:j<L.length:=(Jr hl hi _ _ hN).2
 have e0:Ly L i=xc L s j:=by unfold Ly;rw [hN];rfl
 refine Z2 ?_;refine E2 (x:=pmO L j) Tryz.call123 ho (by simp) Ex ((ABj L i o _ (Ar ho) hi hll).ok hN) ?_;refine j7 ?_;refine lm ?_;refine Z2 ?_;refine A9 Tryz.call64 (c64 L j o _ (Ar (getset ho)) hj) ?_;refine Z20 ?_;refine A2 [0,2,3,4] ?_;refine Z8 ?_;refine A9 Tryz.call186 (ATb (Aq L j).text _) ?_;refine AHo ?_;refine A2 [0,2,3,4] ?_;refine Z25 ?_;refine Oh ?_;refine A2 [0,2,3,21] ?_
 refine A3 (fun ht21=>?_) (fun ht21=>?_)
 ·have e:Ly L i=.bad 8 (Aq L j).at_:=by rw [e0];exact if_pos ht21
  exact ADx
 have e:Ly L i=.ok ⟨s,Wo (Aq L j).text⟩ (j+1):=by rw [e0];exact if_neg (by rw [ht21];simp)
 refine No ?_
 refine A4 (h:=Cm (getset ho)) (hr:=?_)
 refine Z10 ?_
 refine Gm jS (getset ho) ?_ ?_
 ·simp
 refine Ja ?_;refine Z2 ?_;refine Z16 ?_;exact A8 (Ae (B8 jA jS)) (hp:=⟨_,j+1,e,rfl,by rw [E0];rfl⟩)

theorem ASe (L:List Tok) (i o:Nat) (Hp:List AObj) (ho:Hp[o]? = some (pmO L i)) (hi:i<L.length) (hl:TokEnd L) (hll:L.length≤500000):CP 162 [.ptr o 0] Hp (P7 L i) (fun c j r H'=>r=Ab c∧H'=Hp.set o (pmO L j)) (W1 L o Hp):=by
 refine ⟨fun hX=>?_⟩
 refine Ah [.cell 2 62] [0] Tryz.func162 Tryz.ntmps162 (fun d=>?_)
 refine Z67 ?_;refine Hy [0,1,3,7,0,16,48,112,255,511,1023,1023,1023,0,0,26623,61439,131071] [] [.q 13 [] [],.s [3] none [] [],.s [5] none [] [],.s [3] none [] [],.q 1 [] [],.s [5] none [] []] (fun _=>Hp) (fun _=>[.cells 62 [A5 0,Af [],A5 0,A5 0,Af [],.nil]]) Ai (by kernel_rfl) rfl rfl (fun _=>rfl) ?_
 apply Y.q
 ·intro B hT hF
  refine Z40 ?_
  refine Ak (h:=Cm ho) (hr:=?_)
  refine Z40 ?_
  refine Ak (h:=Cm ho) (hr:=?_)
  refine De Tryz.call187 (ATw L i hi hl hll (fun n Dv h1 h2=>AB4 hl (by omega) n Dv h1 h2) _) ?_;exact ADc
 case hTF=>decide
 refine Y.allocP Tryz.zeroValue62 ?_;refine Y.allocP Tryz.zeroValue38 ?_;refine Y.storeP Tryz.sizeOf62 ?_
 apply Y.q
 ·intro B hT hF
  exact Yo
 case hTF=>decide
 refine Y.storeP Tryz.sizeOf38 ?_;refine Gx (tn:=[])  ?_;refine A2 [0,2,3,4,5] ?_;refine Z33 ?_;refine A2 [0,2,3,4,5,21] ?_
 refine A3 (fun ht21=>?_) (fun ht21=>?_)
 ·have e:P7 L i=.bad (atM L i).2.2.1 (atM L i).2.2.2:=if_pos ht21
  exact ADx
 obtain ⟨k,hk,hkl⟩:=AIs hl (by omega) hi (by simpa using ht21)
 have e:P7 L i=.ok (atM L i).1 k:=(if_neg (by rw [ht21];simp)).trans (by rw [hk];rfl)
 rw [hk]
 refine Yt ?_
 refine Gm jS ho ?_ ?_
 ·simp
 refine Ja ?_;refine Z2 ?_;refine Z16 ?_;exact A8 (Ae (B8 jA jS)) (hp:=⟨_,k,e,(Ax _).symm,rfl⟩) (hlow:=by have:=B7 Hp.length (atM L i).1;rw [Ax] at this;exact this)

/-- The parser's object and the move's, turned. -/
def U2 (L:List Tok) (Hp:List AObj) (o om i:Nat) (x:AObj):List AObj:=(Hp.set o (pmO L i)).set om x
theorem U2_len {L:List Tok} {Hp:List AObj} {o om i:Nat} {x:AObj}:(U2 L Hp o om i x).length=Hp.length:=by simp [U2]
theorem Gs {L:List Tok} {Hp:List AObj} {o om i:Nat} {x z:AObj} (hm:Hp[om]? = some z):(U2 L Hp o om i x)[om]? = some x:=gB hm
theorem Fd {L:List Tok} {Hp:List AObj} {o om i:Nat} {x z:AObj} (ho:Hp[o]? = some z) (hne:om≠o):(U2 L Hp o om i x)[o]? = some (pmO L i):=gA ho hne
theorem Gk {L:List Tok} {Hp:List AObj} {o om i j:Nat} {x:AObj} (hne:om≠o):(U2 L Hp o om i x).set o (pmO L j)=U2 L Hp o om j x:=AG0 hne
theorem U2_setm {L:List Tok} {Hp:List AObj} {o om i:Nat} {x y:AObj}:(U2 L Hp o om i x).set om y=U2 L Hp o om i y:=E0 ..
theorem Un {L:List Tok} {Hp:List AObj} {o om i:Nat} {x:AObj} (ho:Hp[o]? = some (pmO L i)) (hm:Hp[om]? = some x):U2 L Hp o om i x=Hp:=by unfold U2;rw [Jh ho,Jh hm]
theorem Ie {L:List Tok} {Hp:List AObj} {o om i q:Nat} {x:AObj} (h1:q≠o) (h2:q≠om):(U2 L Hp o om i x)[q]? = Hp[q]? := by unfold U2;rw [Ed (Ne.symm h2),Ed (Ne.symm h1)]
def W2 (L:List Tok) (o om:Nat) (Hp H':List AObj):Prop:=∃j m,H'=U2 L Hp o om j (mvO m)
theorem T3 {n k:Nat} {o:Bool} {l:List Expr} {x:Expr}:Low n (.slice o k (l.map Ab++[.agg (Dz x)])):=by
 rw [show AV.agg (Dz x)=Ab x from (Ax x).symm];exact un
theorem Hr {n:Nat} {m:Mov}:ObjLow n (mvO m):=by
 show ∀y∈mvC m,Low n y
 intro y hy
 simp only [mvC,Bu,I3,or_false] at hy
 rcases hy with rfl|rfl|rfl|rfl|rfl
 all_goals first|exact Fx|simp [or_imp,forall_and]
theorem ABk {L:List Tok} {Hp:List AObj} {o om i:Nat} {m:Mov} {c:Col} {x:AObj}:(U2 L Hp o om i x).set om (.cells 54 [A5 m.kind,.slice true 1 (m.take.map Af),.slice true 2 (m.give.map Bj++[Bj c]),.slice true 6 (m.ahead.map Ab),.slice true 6 (m.back.map Ab)])=U2 L Hp o om i (mvO (Eh m c)):=by
 rw [U2_setm];simp only [mvO,mvC,Eh,C4,C5,Ef]
theorem ABl {L:List Tok} {Hp:List AObj} {o om i:Nat} {m:Mov} {e:Expr} {x:AObj}:(U2 L Hp o om i x).set om (.cells 54 [A5 m.kind,.slice true 1 (m.take.map Af),.slice true 2 (m.give.map Bj),.slice true 6 (m.ahead.map Ab++[.agg (Dz e)]),.slice true 6 (m.back.map Ab)])=U2 L Hp o om i (mvO (xd m e)):=by
 rw [U2_setm,show AV.agg (Dz e)=Ab e from (Ax e).symm];simp only [mvO,mvC,xd,C4,C5,Ef]
theorem ABm {L:List Tok} {Hp:List AObj} {o om i:Nat} {m:Mov} {e:Expr} {x:AObj}:(U2 L Hp o om i x).set om (.cells 54 [A5 m.kind,.slice true 1 (m.take.map Af),.slice true 2 (m.give.map Bj),.slice true 6 (m.ahead.map Ab),.slice true 6 (m.back.map Ab++[.agg (Dz e)])])=U2 L Hp o om i (mvO (xe m e)):=by
 rw [U2_setm,show AV.agg (Dz e)=Ab e from (Ax e).symm];simp only [mvO,mvC,xe,C4,C5,Ef]
theorem ABn {L:List Tok} {Hp:List AObj} {o om i:Nat} {m:Mov} {s:Str} {x:AObj}:(U2 L Hp o om i x).set om (.cells 54 [A5 m.kind,.slice true 1 (m.take.map Af++[Af s]),.slice true 2 (m.give.map Bj),.slice true 6 (m.ahead.map Ab),.slice true 6 (m.back.map Ab)])=U2 L Hp o om i (mvO (xf m s)):=by
 rw [U2_setm];simp only [mvO,mvC,xf,C4,C5,Ef]

theorem AK9 (L:List Tok) (m:Mov) (i o om:Nat) (Hp:List AObj) (hne:om≠o) (ho:Hp[o]? = some (pmO L i)) (hm:Hp[om]? = some (mvO m)) (hi:i<L.length) (hl:TokEnd L) (hll:L.length≤500000) (hb:MvLe m (2*i-1)):CP 122 [.ptr o 0,.ptr om 0] Hp (G8 L m i) (fun m' j r H'=>r=Rt∧H'=U2 L Hp o om j (mvO m')) (W2 L o om Hp):=by
 refine ⟨fun hX=>?_⟩
 have:=hb.take;have:=hb.give;have:=hb.ahead;have:=hb.back
 refine Ah [] [0,1] Tryz.func122 Tryz.ntmps122 (fun d=>?_)
 rcases hC:Ly L i with ⟨c,j⟩|⟨e,a⟩
 rotate_left
 ·exact (Dk hX (by first|exact by unfold G8;rw [hC];rfl|exact hC)).elim
 have hj:=g7 hl hi _ _ hC
 refine Hy [0,0,2,6,14,0,32,96,254,511,1023,2047] [4,6] [.q 4 [] [],.s [8] (some 0) [] [],.q 1 [] [1],.s [10] (some 1) [] [],.q 1 [1] [],.s [8,12] none [0,1] []] (fun B=>U2 L Hp o om (if B 1=true then j else i) (if B 0=true then .cells 54 [A5 m.kind,.slice true 1 (m.take.map Af),.slice false 2 (m.give.map Bj),.slice true 6 (m.ahead.map Ab),.slice true 6 (m.back.map Ab)] else .cells 54 [A5 m.kind,.slice true 1 (m.take.map Af),.slice true 2 (m.give.map Bj),.slice true 6 (m.ahead.map Ab),.slice true 6 (m.back.map Ab)])) (fun _=>[]) Ai (by kernel_rfl) (Un ho hm) rfl (fun B=>U2_len) ?_
 apply Y.q
 ·intro B hT hF
  exact ADc
 case hTF=>decide
 refine Yj (o:=om) (t':=54) (cs:=[A5 m.kind,.slice true 1 (m.take.map Af),.slice true 2 (m.give.map Bj),.slice true 6 (m.ahead.map Ab),.slice true 6 (m.back.map Ab)]) (cs':=[A5 m.kind,.slice true 1 (m.take.map Af),.slice false 2 (m.give.map Bj),.slice true 6 (m.ahead.map Ab),.slice true 6 (m.back.map Ab)]) Tryz.isAgg22 (fun B hB=>⟨by simp only [hB];exact Gs hm,U2_setm.symm,rfl⟩) ?_
 apply Y.q
 ·intro B hT hF
  exact Yo
 case hTF=>decide
 refine Of (r:=Bj c) (o:=o) (x0:=pmO L i) (x:=pmO L j) Tryz.call161 (fun B hB1 hB2 hB=>⟨by simp only [hB];exact Fd ho hne,(Gk hne).symm,rfl,Ex,?_⟩) ?_
 ·simp only [hB]
  exact (AVa L i o _ (Ar (Fd ho hne)) hi hl hll).ok hC
 apply Y.q
 ·intro B hT hF
  exact Z81
 case hTF=>decide
 refine Y.append jU Tryz.type36 ?_ ?_ ?_
 ·simp [Tryz.t36];omega
 ·simp [Tryz.t36];omega
 refine Gx (tn:=[4,6]) (U:=U2 L Hp o om j (.cells 54 [A5 m.kind,.slice true 1 (m.take.map Af),.slice false 2 (m.give.map Bj),.slice true 6 (m.ahead.map Ab),.slice true 6 (m.back.map Ab)])) ?_;refine Z0 ?_
 refine J1 jS (Gs hm) ?_ ?_
 ·simp [or_imp,forall_and]
 refine A2 [0,1] ?_;refine T0 (ABk (m:=m) (c:=c)) ?_
 rcases hW:Dl L [61] j with ⟨u,j2⟩|⟨e,a⟩
 rotate_left
 ·exact (Dk hX (by first|exact by unfold G8;rw [hC];show (Dl L [61] j).bind _=_;rw [hW];rfl|exact hW)).elim
 have hj2:=Hq hl hj.2 _ _ hW
 refine Z2 ?_;refine E2 (x:=pmO L j2) Tryz.call96 (Fd ho hne) (by simp) Ex ((c96 L [61] j o _ (Ar (Fd ho hne)) hj.2 hll).ok hW) ?_
 rw [Gk hne]
 refine A2 [0,1] ?_
 rcases hT:P7 L j2 with ⟨x,k⟩|⟨e,a⟩
 rotate_left
 ·exact (Dk hX (by first|exact by unfold G8;rw [hC];show (Dl L [61] j).bind _=_;rw [hW];show (P7 L j2).bind _=_;rw [hT];rfl|exact hT)).elim
 have hk:=Ul hl hll hj2.2 hT
 refine W.drawT0 [0,1,3,7,0,16,15,0,255,511,1023,511,2559,6655] [3,5] [.q 3 [] [0],.s [20] (some 0) [] [],.q 1 [] [1],.s [22] (some 1) [] [],.q 2 [] []] (fun B=>U2 L Hp o om (if B 1=true then k else j2) (if B 0=true then .cells 54 [A5 (Eh m c).kind,.slice true 1 ((Eh m c).take.map Af),.slice true 2 ((Eh m c).give.map Bj),.slice false 6 ((Eh m c).ahead.map Ab),.slice true 6 ((Eh m c).back.map Ab)] else .cells 54 [A5 (Eh m c).kind,.slice true 1 ((Eh m c).take.map Af),.slice true 2 ((Eh m c).give.map Bj),.slice true 6 ((Eh m c).ahead.map Ab),.slice true 6 ((Eh m c).back.map Ab)])) (fun _=>[]) Ai (by kernel_rfl) rfl rfl (fun B=>by rw [U2_len];exact U2_len.symm) ?_
 apply Y.q
 ·intro B hT hF
  exact AH6
 case hTF=>decide
 refine Yj (o:=om) (t':=54) (cs:=[A5 (Eh m c).kind,.slice true 1 ((Eh m c).take.map Af),.slice true 2 ((Eh m c).give.map Bj),.slice true 6 ((Eh m c).ahead.map Ab),.slice true 6 ((Eh m c).back.map Ab)]) (cs':=[A5 (Eh m c).kind,.slice true 1 ((Eh m c).take.map Af),.slice true 2 ((Eh m c).give.map Bj),.slice false 6 ((Eh m c).ahead.map Ab),.slice true 6 ((Eh m c).back.map Ab)]) Tryz.isAgg52 (fun B hB=>⟨by simp only [hB];exact Gs hm,U2_setm.symm,rfl⟩) ?_
 apply Y.q
 ·intro B hT hF
  exact Yo
 case hTF=>decide
 refine Of (r:=Ab x) (o:=o) (x0:=pmO L j2) (x:=pmO L k) Tryz.call162 (fun B hB1 hB2 hB=>⟨by simp only [hB];exact Fd ho hne,(Gk hne).symm,rfl,Ex,?_⟩) ?_
 ·simp only [hB]
  exact (ASe L j2 o _ (Ar (Fd ho hne)) hj2.2 hl hll).ok hT
 apply Y.q
 ·intro B hT hF
  exact AHc
 case hTF=>decide
 refine Y.appendPut4 (tn:=[3,5]) (U:=U2 L Hp o om k (.cells 54 [A5 (Eh m c).kind,.slice true 1 ((Eh m c).take.map Af),.slice true 2 ((Eh m c).give.map Bj),.slice false 6 ((Eh m c).ahead.map Ab),.slice true 6 ((Eh m c).back.map Ab)])) (O:=[]) (o:=om) (t':=54) (cs:=[A5 (Eh m c).kind,.slice true 1 ((Eh m c).take.map Af),.slice true 2 ((Eh m c).give.map Bj),.slice false 6 ((Eh m c).ahead.map Ab),.slice true 6 ((Eh m c).back.map Ab)]) (by kernel_rfl) jU Tryz.type62 Tryz.sizeOf62 Tryz.sizeOf52 jU (Ar (Gs hm)) ?_ ?_ ?_ (hfsz:=Tryz.sizeOf52)
 ·simp [Tryz.t62,Eh];omega
 ·simp [Tryz.t62,Eh];omega
 refine Z0 ?_
 refine J1 jS (Gs hm) ?_ ?_
 ·exact T3
 refine A2 [] ?_;exact Gn .nores (hp:=⟨xd (Eh m c) x,k,by unfold G8;rw [hC];show (Dl L [61] j).bind _=_;rw [hW];show (P7 L j2).bind _=_;rw [hT];rfl,rfl,by exact ABl (m:=Eh m c)⟩)

/-- What is asked of a part of a move that is a closure. -/
def xh (L:List Tok) (o om g:Nat) (caps:List AV) (Hp:List AObj) (one:Mov→Nat→PR Mov):Prop:=
 ∀m i,MvLe m (2*i-1)→0<i→i<L.length→CP g caps (U2 L Hp o om i (mvO m)) (one m i) (fun m' j r H'=>r=Rt∧H'=U2 L Hp o om j (mvO m')) (W2 L o om Hp)
theorem Lh {L:List Tok} {Hp:List AObj} {o om i j:Nat} {x y:AObj} (hne:om≠o):U2 L (U2 L Hp o om i x) o om j y=U2 L Hp o om j y:=by
 unfold U2
 rw [AG0 hne,E0]
theorem AGl {L:List Tok} {Hp H':List AObj} {o om i:Nat} {x:AObj} (hne:om≠o) (h:W2 L o om (U2 L Hp o om i x) H'):W2 L o om Hp H':=by
 obtain ⟨j,m,e⟩:=h
 exact ⟨j,m,by rw [e,Lh hne]⟩
theorem AVb (L:List Tok) (m:Mov) (i o om bp bm:Nat) (Hp:List AObj) (hne:om≠o) (ho:Hp[o]? = some (pmO L i)) (hm:Hp[om]? = some (mvO m)) (hbp:Hp[bp]? = some (.cells 68 [.ptr o 0])) (hbm:Hp[bm]? = some (.cells 132 [.ptr om 0])) (hi:i<L.length) (hl:TokEnd L) (hll:L.length≤500000) (hb:MvLe m (2*i-1)):CP 163 [.ptr bm 0,.ptr bp 0] Hp (Wy L m i) (fun m' j r H'=>r=Rt∧H'=U2 L Hp o om j (mvO m')) (W2 L o om Hp):=by
 refine ⟨fun hX=>?_⟩
 have n1:bp≠o:=fun e=>by rw [e,ho] at hbp;simp at hbp
 have n2:bp≠om:=fun e=>by rw [e,hm] at hbp;simp at hbp
 have n3:bm≠o:=fun e=>by rw [e,ho] at hbm;simp at hbm
 have n4:bm≠om:=fun e=>by rw [e,hm] at hbm;simp at hbm
 have:=hb.take;have:=hb.give;have:=hb.ahead;have:=hb.back
 refine Ah [] [0,1] Tryz.func163 Tryz.ntmps163 (fun d=>?_)
 refine W.flip Ai (by kernel_rfl) Tryz.zeroValue4 Tryz.sizeOf4 Tryz.isAgg4 (fun fb=>?_)
 refine dn [0,1,3] (by simp only [go_sem,↓reduceIte,Nat.reduceEqDiff,Nat.reduceAdd]<;>rfl) ?_
 refine A3 (fun ht3=>?_) (fun ht3=>?_)
 ·rcases hT:P7 L i with ⟨x,k⟩|⟨e,a⟩
  rotate_left
  ·exact AQv
  have hk:=Ul hl hll hi hT
  refine W.drawZ0 [0,1,3,7,0,16,15,0,255,511,1023,2047] [3,5] [.q 3 [] [0],.s [7] (some 0) [] [],.q 1 [] [1],.s [9] (some 1) [] [],.q 2 [] []] (fun B=>U2 L Hp o om (if B 1=true then k else i) (if B 0=true then .cells 54 [A5 m.kind,.slice true 1 (m.take.map Af),.slice true 2 (m.give.map Bj),.slice true 6 (m.ahead.map Ab),.slice false 6 (m.back.map Ab)] else .cells 54 [A5 m.kind,.slice true 1 (m.take.map Af),.slice true 2 (m.give.map Bj),.slice true 6 (m.ahead.map Ab),.slice true 6 (m.back.map Ab)])) (fun _=>[.cells 4 [.v (.bool fb)]]) Ai (by kernel_rfl) (Un ho hm) rfl (fun B=>U2_len) ?_
  apply Y.q
  ·intro B hT hF
   refine Ak (h:=Cm ((Ie n3 n4).trans hbm)) (hr:=?_)
   exact Z96
  case hTF=>decide
  refine Yj (o:=om) (t':=54) (cs:=[A5 m.kind,.slice true 1 (m.take.map Af),.slice true 2 (m.give.map Bj),.slice true 6 (m.ahead.map Ab),.slice true 6 (m.back.map Ab)]) (cs':=[A5 m.kind,.slice true 1 (m.take.map Af),.slice true 2 (m.give.map Bj),.slice true 6 (m.ahead.map Ab),.slice false 6 (m.back.map Ab)]) Tryz.isAgg52 (fun B hB=>⟨by simp only [hB];exact Gs hm,U2_setm.symm,rfl⟩) ?_
  apply Y.q
  ·intro B hT hF
   refine Ak (h:=Cm ((Ie n1 n2).trans hbp)) (hr:=?_)
   exact cr
  case hTF=>decide
  refine Of (r:=Ab x) (o:=o) (x0:=pmO L i) (x:=pmO L k) Tryz.call162 (fun B hB1 hB2 hB=>⟨by simp only [hB];exact Fd ho hne,(Gk hne).symm,rfl,Ex,?_⟩) ?_
  ·simp only [hB]
   exact AQw
  apply Y.q
  ·intro B hT hF
   exact AHc
  case hTF=>decide
  refine Y.put2 (tn:=[3,5]) (U:=U2 L Hp o om k (.cells 54 [A5 m.kind,.slice true 1 (m.take.map Af),.slice true 2 (m.give.map Bj),.slice true 6 (m.ahead.map Ab),.slice false 6 (m.back.map Ab)])) (O:=[.cells 4 [.v (.bool fb)]]) (o:=om) (t':=54) (cs:=[A5 m.kind,.slice true 1 (m.take.map Af),.slice true 2 (m.give.map Bj),.slice true 6 (m.ahead.map Ab),.slice false 6 (m.back.map Ab)]) jU Tryz.type62 Tryz.sizeOf62 Tryz.sizeOf52 jU (Ar (Gs hm)) ?_ ?_ ?_ (hfsz:=Tryz.sizeOf52)
  ·simp [Tryz.t62];omega
  ·simp [Tryz.t62];omega
  refine Z0 ?_
  refine J1 jS (Gs hm) ?_ ?_
  ·exact T3
  exact AOj
 rcases hT:P7 L i with ⟨x,k⟩|⟨e,a⟩
 rotate_left
 ·exact AQv
 have hk:=Ul hl hll hi hT
 refine W.drawY0 [0,0,2,6,14,0,32,96,254,511,1023,2047] [4,6] [.q 4 [] [],.s [20] (some 0) [] [],.q 1 [] [1],.s [22] (some 1) [] [],.q 1 [1] [],.s [20,24] none [0,1] []] (fun B=>U2 L Hp o om (if B 1=true then k else i) (if B 0=true then .cells 54 [A5 m.kind,.slice true 1 (m.take.map Af),.slice true 2 (m.give.map Bj),.slice true 6 (m.ahead.map Ab),.slice false 6 (m.back.map Ab)] else .cells 54 [A5 m.kind,.slice true 1 (m.take.map Af),.slice true 2 (m.give.map Bj),.slice true 6 (m.ahead.map Ab),.slice true 6 (m.back.map Ab)])) (fun _=>[.cells 4 [.v (.bool fb)]]) Ai (by kernel_rfl) (Un ho hm) rfl (fun B=>U2_len) ?_
 apply Y.q
 ·intro B hT hF
  refine Ak (h:=Cm ((Ie n3 n4).trans hbm)) (hr:=?_)
  refine Ak (h:=Cm ((Ie n3 n4).trans hbm)) (hr:=?_)
  exact Z96
 case hTF=>decide
 refine Yj (o:=om) (t':=54) (cs:=[A5 m.kind,.slice true 1 (m.take.map Af),.slice true 2 (m.give.map Bj),.slice true 6 (m.ahead.map Ab),.slice true 6 (m.back.map Ab)]) (cs':=[A5 m.kind,.slice true 1 (m.take.map Af),.slice true 2 (m.give.map Bj),.slice true 6 (m.ahead.map Ab),.slice false 6 (m.back.map Ab)]) Tryz.isAgg52 (fun B hB=>⟨by simp only [hB];exact Gs hm,U2_setm.symm,rfl⟩) ?_
 apply Y.q
 ·intro B hT hF
  refine Ak (h:=Cm ((Ie n1 n2).trans hbp)) (hr:=?_)
  exact cr
 case hTF=>decide
 refine Of (r:=Ab x) (o:=o) (x0:=pmO L i) (x:=pmO L k) Tryz.call162 (fun B hB1 hB2 hB=>⟨by simp only [hB];exact Fd ho hne,(Gk hne).symm,rfl,Ex,?_⟩) ?_
 ·simp only [hB]
  exact AQw
 apply Y.q
 ·intro B hT hF
  exact Z81
 case hTF=>decide
 refine Y.append jU Tryz.type62 ?_ ?_ ?_
 ·simp [Tryz.t62];omega
 ·simp [Tryz.t62];omega
 refine Gx (tn:=[4,6]) (U:=U2 L Hp o om k (.cells 54 [A5 m.kind,.slice true 1 (m.take.map Af),.slice true 2 (m.give.map Bj),.slice true 6 (m.ahead.map Ab),.slice false 6 (m.back.map Ab)])) ?_;refine Z0 ?_
 refine J1 jS (Gs hm) ?_ ?_
 ·exact T3
 exact AOj

theorem Js {L:List Tok} {Hp:List AObj} {o om i j n:Nat} {x y:AObj} (hne:om≠o) (hy:ObjLow n y) (h:∀z∈U2 L Hp o om i x,ObjLow n z):∀z∈U2 L Hp o om j y,ObjLow n z:=by
 intro z hz
 rw [show U2 L Hp o om j y=((U2 L Hp o om i x).set o (pmO L j)).set om y by rw [Gk hne,U2_setm]] at hz
 rcases My hz with hz|rfl
 ·rcases My hz with hz|rfl
  ·exact h z hz
  exact Ex
 exact hy
theorem Fw {L:List Tok} {Hp own:List AObj} {o om i:Nat} {x:AObj} (h1:o<Hp.length) (h2:om<Hp.length):U2 L (Hp++own) o om i x=U2 L Hp o om i x++own:=by
 unfold U2
 rw [Lk _ _ h1,Lk _ _ (by simpa using h2)]
/-- Where the loop of things with commas between stands. -/
structure ListAt (L:List Tok) (n:Int) (one:Mov→Nat→PR Mov) (X:PR Mov) (x:Nat×Mov×Nat):Prop where
 lt:x.2.2<L.length
 pos:0<x.2.2
 le:MvLe x.2.1 (2*x.2.2)
 k:x.1≤x.2.2
 fuel:∃f,X=Uj L n one f x.1 x.2.1 x.2.2∧L.length-x.2.2<f
theorem ListAt.step {L:List Tok} {n:Int} {one:Mov→Nat→PR Mov} {X:PR Mov} {x:Nat×Mov×Nat} (h:ListAt L n one X x) (hq:Wx L n x.1 x.2.2=true):∃f,X=((Dl L [44] x.2.2).bind fun _ j=>(one x.2.1 j).bind fun m j=>Uj L n one f (x.1+1) m j)∧L.length-x.2.2<f+1:=by
 obtain ⟨f,e,hf⟩:=h.fuel
 obtain ⟨f,rfl⟩:∃g,f=g+1:=⟨f-1,by omega⟩
 refine ⟨f,?_,hf⟩
 rw [e,Uj,if_pos hq]
theorem ListAt.on {L:List Tok} (hl:TokEnd L) {n:Int} {one:Mov→Nat→PR Mov} (hP:dh L one) {X:PR Mov} {x:Nat×Mov×Nat} (h:ListAt L n one X x) (hq:Wx L n x.1 x.2.2=true) {u:Unit} {j:Nat} (hW:Dl L [44] x.2.2=.ok u j) {m2:Mov} {j2:Nat} (hO:one x.2.1 j=.ok m2 j2):ListAt L n one X (x.1+1,m2,j2)∧x.2.2<j2:=by
 obtain ⟨f,e,hf⟩:=h.step hq
 have h1:=Hq hl h.lt _ _ hW
 have hj:j=x.2.2+1:=by
  unfold Dl at hW
  split at hW
  ·injection hW with _ h;exact h.symm
  cases hW
 obtain ⟨a1,a2,a3⟩:=hP x.2.1 j (h.le.mono (by omega)) (by omega) h1.2 _ _ hO
 have:=h.k
 refine ⟨⟨a2,by show 0<j2;omega,a3,by show x.1+1≤j2;omega,f,?_,by show L.length-j2<f;omega⟩,by omega⟩
 rw [e,hW]
 show (one x.2.1 j).bind _=_
 rw [hO];rfl
theorem ListAt.bad1 {L:List Tok} {n:Int} {one:Mov→Nat→PR Mov} {X:PR Mov} {x:Nat×Mov×Nat} (h:ListAt L n one X x) (hq:Wx L n x.1 x.2.2=true) {e a:Int} (hW:Dl L [44] x.2.2=.bad e a):X=.bad e a:=by
 obtain ⟨f,e,_⟩:=h.step hq
 rw [e,hW];rfl
theorem ListAt.bad2 {L:List Tok} {n:Int} {one:Mov→Nat→PR Mov} {X:PR Mov} {x:Nat×Mov×Nat} (h:ListAt L n one X x) (hq:Wx L n x.1 x.2.2=true) {u:Unit} {j:Nat} (hW:Dl L [44] x.2.2=.ok u j) {e a:Int} (hO:one x.2.1 j=.bad e a):X=.bad e a:=by
 obtain ⟨f,e,_⟩:=h.step hq
 rw [e,hW]
 show (one x.2.1 j).bind _=_
 rw [hO];rfl
theorem ListAt.out {L:List Tok} {n:Int} {one:Mov→Nat→PR Mov} {X:PR Mov} {x:Nat×Mov×Nat} (h:ListAt L n one X x) (hq:Wx L n x.1 x.2.2=false):X=.ok x.2.1 x.2.2:=by
 obtain ⟨f,e,hf⟩:=h.fuel
 obtain ⟨f,rfl⟩:∃g,f=g+1:=⟨f-1,by omega⟩
 rw [e,Uj,if_neg (by rw [hq];simp)]
theorem AVc (L:List Tok) (m:Mov) (i o om bp bm:Nat) (Hp:List AObj) (hne:om≠o) (ho:Hp[o]? = some (pmO L i)) (hm:Hp[om]? = some (mvO m)) (hbp:Hp[bp]? = some (.cells 68 [.ptr o 0])) (hbm:Hp[bm]? = some (.cells 132 [.ptr om 0])) (hi:i<L.length) (hl:TokEnd L) (hll:L.length≤500000) (hb:MvLe m (2*i-1)):CP 128 [.ptr bm 0,.ptr bp 0] Hp (Uk L m i) (fun m' j r H'=>r=Rt∧H'=U2 L Hp o om j (mvO m')) (W2 L o om Hp):=by
 refine ⟨fun hX=>?_⟩
 have n1:bp≠o:=fun e=>by rw [e,ho] at hbp;simp at hbp
 have n2:bp≠om:=fun e=>by rw [e,hm] at hbp;simp at hbp
 have n3:bm≠o:=fun e=>by rw [e,ho] at hbm;simp at hbm
 have n4:bm≠om:=fun e=>by rw [e,hm] at hbm;simp at hbm
 have:=hb.take;have:=hb.give;have:=hb.ahead;have:=hb.back
 refine Ah [] [0,1] Tryz.func128 Tryz.ntmps128 (fun d=>?_)
 rcases hT:Im L i with ⟨s,k⟩|⟨e,a⟩
 rotate_left
 ·exact (Dk hX (by first|exact by unfold Uk;rw [hT];rfl|exact hT)).elim
 have hk:=Jr hl hi _ _ hT
 refine W.drawY0 [0,0,2,6,14,0,32,96,254,511,1023,2047] [4,6] [.q 4 [] [],.s [6] (some 0) [] [],.q 1 [] [1],.s [8] (some 1) [] [],.q 1 [1] [],.s [6,10] none [0,1] []] (fun B=>U2 L Hp o om (if B 1=true then k else i) (if B 0=true then .cells 54 [A5 m.kind,.slice false 1 (m.take.map Af),.slice true 2 (m.give.map Bj),.slice true 6 (m.ahead.map Ab),.slice true 6 (m.back.map Ab)] else .cells 54 [A5 m.kind,.slice true 1 (m.take.map Af),.slice true 2 (m.give.map Bj),.slice true 6 (m.ahead.map Ab),.slice true 6 (m.back.map Ab)])) (fun _=>[]) Ai (by kernel_rfl) (Un ho hm) rfl (fun B=>U2_len) ?_
 apply Y.q
 ·intro B hT hF
  refine Ak (h:=Cm ((Ie n3 n4).trans hbm)) (hr:=?_)
  refine Ak (h:=Cm ((Ie n3 n4).trans hbm)) (hr:=?_)
  exact Z96
 case hTF=>decide
 refine Yj (o:=om) (t':=54) (cs:=[A5 m.kind,.slice true 1 (m.take.map Af),.slice true 2 (m.give.map Bj),.slice true 6 (m.ahead.map Ab),.slice true 6 (m.back.map Ab)]) (cs':=[A5 m.kind,.slice false 1 (m.take.map Af),.slice true 2 (m.give.map Bj),.slice true 6 (m.ahead.map Ab),.slice true 6 (m.back.map Ab)]) Tryz.isAgg51 (fun B hB=>⟨by simp only [hB];exact Gs hm,U2_setm.symm,rfl⟩) ?_
 apply Y.q
 ·intro B hT hF
  refine Ak (h:=Cm ((Ie n1 n2).trans hbp)) (hr:=?_)
  exact cr
 case hTF=>decide
 refine Of (r:=Af s) (o:=o) (x0:=pmO L i) (x:=pmO L k) Tryz.call123 (fun B hB1 hB2 hB=>⟨by simp only [hB];exact Fd ho hne,(Gk hne).symm,rfl,Ex,?_⟩) ?_
 ·simp only [hB]
  exact (ABj L i o _ (Ar (Fd ho hne)) hi hll).ok hT
 apply Y.q
 ·intro B hT hF
  exact Z81
 case hTF=>decide
 refine Y.append jU Tryz.type9 ?_ ?_ ?_
 ·simp [Tryz.t9];omega
 ·simp [Tryz.t9];omega
 refine Gx (tn:=[4,6]) (U:=U2 L Hp o om k (.cells 54 [A5 m.kind,.slice false 1 (m.take.map Af),.slice true 2 (m.give.map Bj),.slice true 6 (m.ahead.map Ab),.slice true 6 (m.back.map Ab)])) ?_;refine Z0 ?_
 refine J1 jS (Gs hm) ?_ ?_
 ·simp [or_imp,forall_and]
 refine A2 [] ?_;exact Gn .nores (hp:=⟨xf m s,k,by unfold Uk;rw [hT];rfl,rfl,by exact ABn⟩)

theorem AVd (L:List Tok) (m:Mov) (i o om bp bm:Nat) (Hp:List AObj) (hne:om≠o) (ho:Hp[o]? = some (pmO L i)) (hm:Hp[om]? = some (mvO m)) (hbp:Hp[bp]? = some (.cells 68 [.ptr o 0])) (hbm:Hp[bm]? = some (.cells 132 [.ptr om 0])) (hi:i<L.length) (hl:TokEnd L) (hll:L.length≤500000) (hb:MvLe m (2*i-1)):CP 127 [.ptr bp 0,.ptr bm 0] Hp (G8 L m i) (fun m' j r H'=>r=Rt∧H'=U2 L Hp o om j (mvO m')) (W2 L o om Hp):=by
 refine ⟨fun hX=>?_⟩
 have hol:=(Ad.1 ho).1
 have hml:=(Ad.1 hm).1
 have n1:bp≠o:=fun e=>by rw [e,ho] at hbp;simp at hbp
 have n2:bp≠om:=fun e=>by rw [e,hm] at hbp;simp at hbp
 have n3:bm≠o:=fun e=>by rw [e,ho] at hbm;simp at hbm
 have n4:bm≠om:=fun e=>by rw [e,hm] at hbm;simp at hbm
 have:=hb.take;have:=hb.give;have:=hb.ahead;have:=hb.back
 refine Ah [] [0,1] Tryz.func127 Tryz.ntmps127 (fun d=>?_)
 refine ADy ?_
 rcases hT:G8 L m i with ⟨m2,k⟩|⟨e,a⟩
 rotate_left
 ·exact (Dk hX hT).elim
 refine Ix ?_
 refine A4 (h:=Cm ((Ie n1 n2).trans hbp)) (hr:=?_)
 refine A4 (h:=Cm ((Ie n3 n4).trans hbm)) (hr:=?_)
 refine K2 (up':=U2 L Hp o om k (mvO m2)) (own':=[]) Tryz.call122 (((AK9 L m i o om _ hne (Ar (Fd ho hne)) (Ar (Gs hm)) hi hl hll hb).ok hT).mono (fun r H' e=>⟨e.1,e.2.trans (by rw [Ht,Ht,Lh hne])⟩)) (by rw [U2_len,U2_len]) (fun h=>Js hne Hr h) ?_;refine A2 [] ?_;exact Gn .nores (hp:=⟨m2,k,rfl,rfl,rfl⟩)

theorem ANt (L:List Tok) (n:Int) (m:Mov) (i o om g:Nat) (caps:List AV) (one:Mov→Nat→PR Mov) (Hp:List AObj) (hne:om≠o) (ho:Hp[o]? = some (pmO L i)) (hm:Hp[om]? = some (mvO m)) (h0:0<i) (hi:i<L.length) (hl:TokEnd L) (hll:L.length≤500000) (hb:MvLe m (2*i-1)) (hcall:∀args w,(callFunc g args).run Tryz.prog w=.ok (.enter g args) w) (hC:xh L o om g caps Hp one) (hP:dh L one):CP 126 [.ptr o 0,A5 n,.fn (.func g) [] caps] Hp (Jp L n one m i) (fun m' j r H'=>r=Rt∧H'=U2 L Hp o om j (mvO m')) (W2 L o om Hp):=by
 refine ⟨fun hX=>?_⟩
 have hol:=(Ad.1 ho).1
 have hml:=(Ad.1 hm).1
 refine Ah [] [0,1,2] Tryz.func126 Tryz.ntmps126 (fun d=>?_)
 refine ADy ?_
 rcases h1:one m i with ⟨m1,j1⟩|⟨e,a⟩
 rotate_left
 ·exact (Dk hX (by first|exact by unfold Jp;rw [h1];rfl|exact h1)).elim
 have g1:=hP m i hb h0 hi _ _ h1
 have e0:Jp L n one m i=Uj L n one (L.length+1) 1 m1 j1:=by unfold Jp;rw [h1];rfl
 refine Z2 ?_
 refine R.callVX (up':=U2 L Hp o om j1 (mvO m1)) (own':=[]) hcall (by rw [Ht,Ht];exact (hC m i hb h0 hi).ok h1) (by rw [U2_len,U2_len]) (fun h=>Js hne Hr h) ?_
 refine cu ?_;refine Z2 ?_;refine A2 [0,1,2,6] ?_
 refine Az (α:=Nat×Mov×Nat) (fun x=>⟨30,A6 0 (.ptr o 0) (A6 1 (A5 n) (A6 2 (.fn (.func g) [] caps) (A6 6 (A5 (x.1:Int)) (fun _=>.any)))),U2 L Hp o om x.2.2 (mvO x.2.1),[],[],none⟩) (fun x=>ListAt L n one (Jp L n one m i) x) (fun x=>L.length-x.2.2) ((1,m1,j1)) ⟨g1.2.1,by show 0<j1;omega,g1.2.2,by show 1≤j1;omega,_,e0,by show L.length-j1<_;omega⟩ (F6 _) rfl (fun x hx=>?_)
 refine Z8 ?_;refine rt ?_;refine Z38 ?_;refine Bm Tryz.call129 (fun hB=>ASd L [44] x.2.2 o _ (Ar (Fd ho hne)) hx.lt) ?_;refine Z97 ?_;refine A2 [0,1,2,6,23] ?_
 refine A3 (fun ht23=>?_) (fun ht23=>?_)
 ·have hq:Wx L n x.1 x.2.2=true:=ht23
  refine Z42 ?_
  rcases hW:Dl L [44] x.2.2 with ⟨u,j⟩|⟨e,a⟩
  rotate_left
  ·exact (Dk hX (by first|exact hx.bad1 hq hW|exact hW)).elim
  have hj:=Hq hl hx.lt _ _ hW
  have hpos:=hx.pos
  refine Z2 ?_;refine E2 (x:=pmO L j) Tryz.call96 (Fd ho hne) (by simp) Ex ((c96 L [44] x.2.2 o _ (Ar (Fd ho hne)) hx.lt hll).ok hW) ?_
  rw [Gk hne]
  refine A2 [0,1,2,6] ?_
  rcases hO:one x.2.1 j with ⟨m2,j2⟩|⟨e,a⟩
  rotate_left
  ·exact (Dk hX (by first|exact hx.bad2 hq hW hO|exact hO)).elim
  have hon:=hx.on hl hP hq hW hO
  refine Z52 ?_
  refine R.callVX (up':=U2 L Hp o om j2 (mvO m2)) (own':=[]) hcall (by rw [Ht,Ht];exact (hC x.2.1 j (hx.le.mono (by omega)) (by omega) hj.2).ok hO) (by rw [U2_len,U2_len]) (fun h=>Js hne Hr h) ?_
  refine A2 [0,1,2,6] ?_;refine Z11 ?_;refine Z52 ?_
  refine A4 (h:=Q.add64 (h2:=fun _=>by have:=hx.k;have:=hx.lt;omega)) (hr:=?_)
  refine A4 ?_;refine A2 [0,1,2,6] ?_
  refine Ay (x.1+1,m2,j2) hon.1 (by have:=hx.lt;have:=hon.2;show L.length-j2<L.length-x.2.2;omega) (Bh rfl)
 have hq:Wx L n x.1 x.2.2=false:=ht23
 have e:=hx.out hq
 refine rm ?_;exact Gn .nores (hp:=⟨_,_,e,rfl,rfl⟩)

theorem CP.mono {g:FuncId} {args:List AV} {H:List AObj} {α:Type} {X:PR α} {Q Q':α→Nat→AV→List AObj→Prop} {R R':List AObj→Prop} (h:CP g args H X Q R) (hQ:∀c j r H',Q c j r H'→Q' c j r H') (hR:∀H',R H'→R' H'):CP g args H X Q' R':=
 ⟨fun hX=>(h.run hX).mono (fun r H' ⟨c,j,e,hq⟩=>⟨c,j,e,hQ _ _ _ _ hq⟩)⟩
section
variable {L:List Tok} {o om bp bm:Nat} {X:List AObj} {z z':AObj}
theorem ABo (hne:om≠o) (ho:X[o]? = some z) (hm:X[om]? = some z') (hbp:X[bp]? = some (.cells 68 [.ptr o 0])) (hbm:X[bm]? = some (.cells 132 [.ptr om 0])) (n1:bp≠o) (n2:bp≠om) (n3:bm≠o) (n4:bm≠om) (hl:TokEnd L) (hll:L.length≤500000):xh L o om 163 [.ptr bm 0,.ptr bp 0] X (Wy L):=
 fun m i hb _ hi=>(AVb L m i o om bp bm (U2 L X o om i (mvO m)) hne (Fd ho hne) (Gs hm) ((Ie n1 n2).trans hbp) ((Ie n3 n4).trans hbm) hi hl hll hb).mono (fun c j r H' e=>⟨e.1,e.2.trans (Lh hne)⟩) (fun H' h=>AGl hne h)
theorem ABp (hne:om≠o) (ho:X[o]? = some z) (hm:X[om]? = some z') (hbp:X[bp]? = some (.cells 68 [.ptr o 0])) (hbm:X[bm]? = some (.cells 132 [.ptr om 0])) (n1:bp≠o) (n2:bp≠om) (n3:bm≠o) (n4:bm≠om) (hl:TokEnd L) (hll:L.length≤500000):xh L o om 128 [.ptr bm 0,.ptr bp 0] X (Uk L):=
 fun m i hb _ hi=>(AVc L m i o om bp bm (U2 L X o om i (mvO m)) hne (Fd ho hne) (Gs hm) ((Ie n1 n2).trans hbp) ((Ie n3 n4).trans hbm) hi hl hll hb).mono (fun c j r H' e=>⟨e.1,e.2.trans (Lh hne)⟩) (fun H' h=>AGl hne h)
theorem ABq (hne:om≠o) (ho:X[o]? = some z) (hm:X[om]? = some z') (hbp:X[bp]? = some (.cells 68 [.ptr o 0])) (hbm:X[bm]? = some (.cells 132 [.ptr om 0])) (n1:bp≠o) (n2:bp≠om) (n3:bm≠o) (n4:bm≠om) (hl:TokEnd L) (hll:L.length≤500000):xh L o om 127 [.ptr bp 0,.ptr bm 0] X (G8 L):=
 fun m i hb _ hi=>(AVd L m i o om bp bm (U2 L X o om i (mvO m)) hne (Fd ho hne) (Gs hm) ((Ie n1 n2).trans hbp) ((Ie n3 n4).trans hbm) hi hl hll hb).mono (fun c j r H' e=>⟨e.1,e.2.trans (Lh hne)⟩) (fun H' h=>AGl hne h)
end
attribute [go_sem] U2_len
theorem ABr {L:List Tok} {Hp own:List AObj} {o om i n:Nat} {x z:AObj} (h:own[n]? = some z):(U2 L Hp o om i x++own)[oid Hp.length n]? = some z:=by
 unfold oid
 rw [List.getElem?_append_right (by rw [U2_len];omega),U2_len,Nat.add_sub_cancel_left]
 exact h
theorem La {n k o:Nat} (h:o<n):oid n k≠o:=by unfold oid;omega
theorem AKa (L:List Tok) (m:Mov) (i o om:Nat) (Hp:List AObj) (hne:om≠o) (ho:Hp[o]? = some (pmO L i)) (hm:Hp[om]? = some (mvO m)) (hi:i<L.length) (hl:TokEnd L) (hll:L.length≤500000) (hb:MvLe m (2*i)):CP 124 [.ptr o 0,.ptr om 0] Hp (Ha L m i) (fun m' j r H'=>r=Rt∧H'=U2 L Hp o om j (mvO m')) (W2 L o om Hp):=by
 refine ⟨fun hX=>?_⟩
 have hol:=(List.getElem?_eq_some_iff.1 ho).1
 have hml:=(List.getElem?_eq_some_iff.1 hm).1
 refine ACall.body [] [0,1] Tryz.func124 Tryz.ntmps124 (fun d=>?_)
 refine ri ?_;refine R.box ?_;refine Ja ?_;refine ADy ?_
 rcases hW:Dl L AGk i with ⟨u,j⟩|⟨e,a⟩
 rotate_left
 ·exact (Dk hX (by first|exact by unfold Ha;rw [hW];rfl|exact hW)).elim
 have hj:=Hq hl hi _ _ hW
 refine Z2 ?_;refine R.callUp (x:=pmO L j) Tryz.call96 (Fd ho hne) (by simp) Ex ((c96 L AGk i o _ (Ar (Fd ho hne)) hi hll).ok hW) ?_
 rw [Gk hne]
 refine Ja ?_
 rcases hP:Jp L ((m.take.map Af).length:Int) (Wy L) m j with ⟨m2,k⟩|⟨e,a⟩
 rotate_left
 ·exact (Dk hX (by first|exact by unfold Ha;rw [hW];show Jp L _ _ m j=_;rw [←hP,List.length_map]|exact hP)).elim
 refine W.drawQ0 [0,0,2,6,14,30,0,127] 7 Ai (by kernel_rfl) ?_;refine Tq ?_
 refine D.go (h:=Q.loadUp (Gs hm)) (hr:=?_)
 refine D.go ?_;refine D.makeFunc ?_;refine D.tail ?_
 refine R.callX (up':=U2 L Hp o om k (mvO m2)) (own':=[.cells 68 [.ptr o 0],.cells 132 [.ptr om 0]]) Tryz.call126 (((ANt L (((m.take.map Af).length:Int)) m j o om 163 [.ptr (oid Hp.length 1) 0,.ptr (oid Hp.length 0) 0] (Wy L) (U2 L Hp o om j (mvO m)++[.cells 68 [.ptr o 0],.cells 132 [.ptr om 0]]) hne (Ar (Fd ho hne)) (Ar (Gs hm)) (by omega) hj.2 hl hll (hb.mono (by omega)) Tryz.call163 (ABo (z:=pmO L j) (z':=mvO m) hne (Ar (Fd ho hne)) (Ar (Gs hm)) (ABr rfl) (ABr rfl) (La hol) (La hml) (La hol) (La hml) hl hll) (pk hl hll)).ok hP).mono (fun r H' e=>⟨e.1,e.2.trans (by first|rw [Fw (by rw [U2_len];exact hol) (by rw [U2_len];exact hml),Lh hne]|rw [Fw hol hml])⟩)) (by first|rfl|rw [U2_len,U2_len]|rw [U2_len]) (fun h=>Js hne Hr h) ?_
 refine R.fin [] ?_;exact K.finN .nores (hp:=⟨m2,k,by unfold Ha;rw [hW];show Jp L _ _ m j=_;rw [←hP,List.length_map],rfl,rfl⟩)

theorem g8 {L:List Tok} {Hp:List AObj} {o om i:Nat} {m:Mov} {s:Str} {x:AObj}:(U2 L Hp o om i x).set om (.cells 54 [A5 m.kind,.slice true 1 [Af s],.slice true 2 (m.give.map Bj),.slice true 6 (m.ahead.map Ab),.slice true 6 (m.back.map Ab)])=U2 L Hp o om i (mvO (takeS m s)):=U2_setm
theorem xi {n:Nat} {x:Expr}:Low n (.slice true 6 [.agg (Dz x)]):=by
 have:=Fx (n:=n) (k:=6) (o:=true) (l:=[x])
 simp only [C5,Ef] at this
 rw [Ax] at this
 exact this
theorem pm {n:Nat} {x:Expr}:Low n (.slice true 6 [Ab x]):=Fx (l:=[x])
theorem AGm {L:List Tok} {m m1:Mov} {i k:Nat} (h:G8 L m i=.ok m1 k):(m1.give.map Bj)[0]? = some (Bj (m1.give.getD 0 ⟨[],0⟩)):=by
 obtain ⟨c,j,h1,h2⟩:=bw h
 obtain ⟨u,j2,h3,h4⟩:=bw h2
 obtain ⟨x,j3,h5,h6⟩:=bw h4
 injection h6 with h6 h7
 subst h6
 show ((m.give++[c]).map Bj)[0]? = some (Bj ((m.give++[c]).getD 0 ⟨[],0⟩))
 cases m.give<;>rfl
section
variable {L:List Tok} {m:Mov} {i:Nat}
theorem AGn (h1:(m.kind==1)=true):Jq L m i=G8 L m i:=if_pos h1
theorem uq (h1:(m.kind==1)=false) (h2:(m.kind==2)=true):Jq L m i=(Im L i).bind fun s j=>Ha L (takeS m s) j:=by
 unfold Jq;rw [if_neg (by rw [h1];simp),if_pos h2]
theorem AGo (h1:(m.kind==1)=false) (h2:(m.kind==2)=false) (h3:(m.kind==3)=true):Jq L m i=Lz L m i:=by
 unfold Jq;rw [if_neg (by rw [h1];simp),if_neg (by rw [h2];simp),if_pos h3]
theorem bx (h1:(m.kind==1)=false) (h2:(m.kind==2)=false) (h3:(m.kind==3)=false) (h4:(m.kind==4)=true):Jq L m i=(Im L i).bind fun s j=>(Dl L Lg j).bind fun _ j=>(Jp L 0 (G8 L) (takeS m s) j).bind fun m j=>Ha L m j:=by
 unfold Jq;rw [if_neg (by rw [h1];simp),if_neg (by rw [h2];simp),if_neg (by rw [h3];simp),if_pos h4]
theorem ca (h1:(m.kind==1)=false) (h2:(m.kind==2)=false) (h3:(m.kind==3)=false) (h4:(m.kind==4)=false) (h5:(m.kind==5)=true):Jq L m i=(Jp L 0 (Uk L) m i).bind fun m j=>(Dl L Lg j).bind fun _ j=>(G8 L m j).bind fun m j=>Ha L m j:=by
 unfold Jq;rw [if_neg (by rw [h1];simp),if_neg (by rw [h2];simp),if_neg (by rw [h3];simp),if_neg (by rw [h4];simp),if_pos h5]
theorem ur (h1:(m.kind==1)=false) (h2:(m.kind==2)=false) (h3:(m.kind==3)=false) (h4:(m.kind==4)=false) (h5:(m.kind==5)=false) (h6:(m.kind==6)=true):Jq L m i=(G8 L m i).bind fun m j=>Ha L (takeS m (m.give.getD 0 ⟨[],0⟩).name) j:=by
 unfold Jq;rw [if_neg (by rw [h1];simp),if_neg (by rw [h2];simp),if_neg (by rw [h3];simp),if_neg (by rw [h4];simp),if_neg (by rw [h5];simp),if_pos h6]
theorem ANu (h1:(m.kind==1)=false) (h2:(m.kind==2)=false) (h3:(m.kind==3)=false) (h4:(m.kind==4)=false) (h5:(m.kind==5)=false) (h6:(m.kind==6)=false):Jq L m i=.ok m i:=by
 unfold Jq;rw [if_neg (by rw [h1];simp),if_neg (by rw [h2];simp),if_neg (by rw [h3];simp),if_neg (by rw [h4];simp),if_neg (by rw [h5];simp),if_neg (by rw [h6];simp)]
end
theorem AVe (L:List Tok) (m:Mov) (i o om:Nat) (Hp:List AObj) (hne:om≠o) (ho:Hp[o]? = some (pmO L i)) (hm:Hp[om]? = some (mvO m)) (hi:i<L.length) (hl:TokEnd L) (hll:L.length≤500000) (hb:MvLe m (2*i-1)):CP 125 [.ptr o 0,.ptr om 0] Hp (Lz L m i) (fun m' j r H'=>r=Rt∧H'=U2 L Hp o om j (mvO m')) (W2 L o om Hp):=by
 refine ⟨fun hX=>?_⟩
 refine Ah [] [0,1] Tryz.func125 Tryz.ntmps125 (fun d=>?_)
 refine ADy ?_
 rcases h1:Im L i with ⟨s,j⟩|⟨e,a⟩
 rotate_left
 ·exact (Dk hX (by first|exact by unfold Lz;rw [h1];rfl|exact h1)).elim
 have hj:=Jr hl hi _ _ h1
 refine Z1 ?_;refine E2 (x:=pmO L j) Tryz.call123 (Fd ho hne) (by simp) Ex ((ABj L i o _ (Ar (Fd ho hne)) hi hll).ok h1) ?_
 rw [Gk hne]
 refine Ra ?_;refine Z0 ?_
 refine J1 jS (Gs hm) ?_ ?_
 ·simp [or_imp,forall_and]
 refine A2 [0,1] ?_;refine T0 (U2_setm (y:=.cells 54 [A5 m.kind,.slice true 1 ([Af s]),.slice true 2 (m.give.map Bj),.slice true 6 (m.ahead.map Ab),.slice true 6 (m.back.map Ab)])) ?_
 rcases h2:Dl L toW j with ⟨u,j2⟩|⟨e,a⟩
 rotate_left
 ·exact (Dk hX (by first|exact by unfold Lz;rw [h1];show (Dl L toW j).bind _=_;rw [h2];rfl|exact h2)).elim
 have hj2:=Hq hl hj.2 _ _ h2
 refine Z2 ?_;refine E2 (x:=pmO L j2) Tryz.call96 (Fd ho hne) (by simp) Ex ((c96 L toW j o _ (Ar (Fd ho hne)) hj.2 hll).ok h2) ?_
 rw [Gk hne]
 refine A2 [0,1] ?_
 rcases h3:Im L j2 with ⟨t,k⟩|⟨e,a⟩
 rotate_left
 ·exact (Dk hX (by first|exact by unfold Lz;rw [h1];show (Dl L toW j).bind _=_;rw [h2];show (Im L j2).bind _=_;rw [h3];rfl|exact h3)).elim
 refine Z2 ?_;refine E2 (x:=pmO L k) Tryz.call123 (Fd ho hne) (by simp) Ex ((ABj L j2 o _ (Ar (Fd ho hne)) hj2.2 hll).ok h3) ?_
 rw [Gk hne]
 refine A4 ?_;refine A2 [1,4] ?_;refine Z1 ?_;refine j7 ?_;refine Ra ?_;refine Z0 ?_
 refine J1 jS (Gs hm) ?_ ?_
 ·simp [or_imp,forall_and]
 refine A2 [1,4] ?_;refine T0 (U2_setm (y:=.cells 54 [A5 m.kind,.slice true 1 ([Af s]),.slice true 2 ([Bj ⟨t,0⟩]),.slice true 6 (m.ahead.map Ab),.slice true 6 (m.back.map Ab)])) ?_;refine Z31 ?_;refine Z10 ?_
 refine A4 (h:=Cm (Gs hm)) (hr:=?_)
 refine A4 (h:=Ac (0) (Af s) (fun _=>rfl)) (hr:=?_)
 refine A4 ?_;refine A9 Tryz.call137 (AJt s _) ?_;refine Ra ?_;refine A4 ?_;refine A9 Tryz.call137 (AJt t _) ?_;refine Ra ?_;refine Z0 ?_
 refine J1 jS (Gs hm) ?_ ?_
 ·first|exact xi|exact pm
 rw [U2_setm]
 refine Z0 ?_
 refine J1 jS (Gs hm) ?_ ?_
 ·first|exact xi|exact pm
 rw [U2_setm]
 refine A2 [] ?_;exact Gn .nores (hp:=⟨⟨m.kind,[s],[⟨t,0⟩],[Dt s],[Dt t]⟩,k,by unfold Lz;rw [h1];show (Dl L toW j).bind _=_;rw [h2];show (Im L j2).bind _=_;rw [h3];rfl,rfl,by simp only [mvO,mvC,C5,Ef,Ax]⟩)

theorem ABs {L:List Tok} {Hp:List AObj} {o om i:Nat} {m:Mov} {c:Col} {x:AObj}:(U2 L Hp o om i x).set om (.cells 54 [A5 m.kind,.slice true 1 [Af c.name],.slice true 2 (m.give.map Bj),.slice true 6 (m.ahead.map Ab),.slice true 6 (m.back.map Ab)])=U2 L Hp o om i (mvO (takeS m c.name)):=U2_setm
theorem c95 (L:List Tok) (m:Mov) (i o om:Nat) (Hp:List AObj) (hne:om≠o) (ho:Hp[o]? = some (pmO L i)) (hm:Hp[om]? = some (mvO m)) (hi:i<L.length) (hl:TokEnd L) (hll:L.length≤500000) (hb:MvLe m (2*i-1)) (h0:0<i):CP 95 [.ptr o 0,.ptr om 0] Hp (Jq L m i) (fun m' j r H'=>r=Rt∧H'=U2 L Hp o om j (mvO m')) (W2 L o om Hp):=by
 refine ⟨fun hX=>?_⟩
 have hol:=(Ad.1 ho).1
 have hml:=(Ad.1 hm).1
 refine Ah [] [0,1] Tryz.func95 Tryz.ntmps95 (fun d=>?_)
 refine ri ?_;refine R.box ?_;refine Ja ?_;refine ADy ?_;refine Z19 ?_
 refine A4 (h:=Cm (Gs hm)) (hr:=?_)
 refine A2 [2,3,7] ?_;refine P8 ?_;refine A2 [2,3,7,8] ?_
 refine A3 (fun ht8=>?_) (fun ht8=>?_)
 ·rcases h1:G8 L m i with ⟨m1,k⟩|⟨e,a⟩
  rotate_left
  ·exact (Dk hX (by first|exact by rw [AGn ht8];rw [h1]|exact h1)).elim
  refine Z31 ?_
  refine K2 (up':=U2 L Hp o om k (mvO m1)) (own':=[.cells 68 [.ptr o 0],.cells 132 [.ptr om 0]]) Tryz.call122 (((AK9 L m i o om (U2 L Hp o om i (mvO m)++[.cells 68 [.ptr o 0],.cells 132 [.ptr om 0]]) hne (Ar (Fd ho hne)) (Ar (Gs hm)) hi hl hll hb).ok h1).mono (fun r H' e=>⟨e.1,e.2.trans (by first|rw [Fw (by rw [U2_len];exact hol) (by rw [U2_len];exact hml),Lh hne]|rw [Fw hol hml])⟩)) (by first|rfl|rw [U2_len,U2_len]|rw [U2_len]) (fun h=>Js hne Hr h) ?_
  refine Yq ?_;exact Gn .nores (hp:=⟨m1,k,by rw [AGn ht8];rw [h1],rfl,rfl⟩)
 refine Z1 ?_;refine A2 [2,3,7,13] ?_
 refine A3 (fun ht13=>?_) (fun ht13=>?_)
 ·rcases h1:Im L i with ⟨s,j⟩|⟨e,a⟩
  rotate_left
  ·exact (Dk hX (by first|exact by rw [uq ht8 ht13];rw [h1];rfl|exact h1)).elim
  have hj:=Jr hl hi _ _ h1
  refine Hy [0,0,2,6,15,31,63] [2] [.q 2 [] [],.s [17] (some 0) [] [],.s [18] none [0] []] (fun B=>U2 L Hp o om (if B 0=true then j else i) (mvO m)) (fun _=>[.cells 68 [.ptr o 0],.cells 132 [.ptr om 0]]) Ai (by kernel_rfl) rfl rfl (fun B=>by rw [U2_len];exact U2_len.symm) ?_
  apply Y.q
  ·intro B hT hF
   exact Z96
  case hTF=>decide
  refine Of (r:=Af s) (o:=o) (x0:=pmO L i) (x:=pmO L j) Tryz.call123 (fun B hB1 hB2 hB=>⟨by simp only [hB];exact Fd ho hne,(Gk hne).symm,rfl,Ex,?_⟩) ?_
  ·simp only [hB]
   exact (ABj L i o _ (Ar (Fd ho hne)) hi hll).ok h1
  refine AP9 ?_;refine Z0 ?_
  refine J1 jS (Gs hm) ?_ ?_
  ·simp [or_imp,forall_and]
  refine Ja ?_;refine T0 (g8 (m:=m) (s:=s)) ?_
  rcases h2:Ha L (takeS m s) j with ⟨m2,k⟩|⟨e,a⟩
  rotate_left
  ·exact (Dk hX (by first|exact by rw [uq ht8 ht13];rw [h1];show Ha L (takeS m s) j=_;rw [h2]|exact h2)).elim
  refine Z31 ?_
  refine K2 (up':=U2 L Hp o om k (mvO m2)) (own':=[.cells 68 [.ptr o 0],.cells 132 [.ptr om 0]]) Tryz.call124 (((AKa L (takeS m s) j o om (U2 L Hp o om j (mvO (takeS m s))++[.cells 68 [.ptr o 0],.cells 132 [.ptr om 0]]) hne (Ar (Fd ho hne)) (Ar (Gs hm)) hj.2 hl hll ((hb.mono (by omega:2*i-1≤2*j)).takeS (by omega))).ok h2).mono (fun r H' e=>⟨e.1,e.2.trans (by first|rw [Fw (by rw [U2_len];exact hol) (by rw [U2_len];exact hml),Lh hne]|rw [Fw hol hml])⟩)) (by first|rfl|rw [U2_len,U2_len]|rw [U2_len]) (fun h=>Js hne Hr h) ?_
  refine Yq ?_;exact Gn .nores (hp:=⟨m2,k,by rw [uq ht8 ht13];rw [h1];show Ha L (takeS m s) j=_;rw [h2],rfl,rfl⟩)
 refine Z1 ?_;refine A2 [2,3,7,24] ?_
 refine A3 (fun ht24=>?_) (fun ht24=>?_)
 ·rcases h1:Lz L m i with ⟨m1,k⟩|⟨e,a⟩
  rotate_left
  ·exact (Dk hX (by first|exact by rw [AGo ht8 ht13 ht24];rw [h1]|exact h1)).elim
  refine Z31 ?_
  refine K2 (up':=U2 L Hp o om k (mvO m1)) (own':=[.cells 68 [.ptr o 0],.cells 132 [.ptr om 0]]) Tryz.call125 (((AVe L m i o om (U2 L Hp o om i (mvO m)++[.cells 68 [.ptr o 0],.cells 132 [.ptr om 0]]) hne (Ar (Fd ho hne)) (Ar (Gs hm)) hi hl hll hb).ok h1).mono (fun r H' e=>⟨e.1,e.2.trans (by first|rw [Fw (by rw [U2_len];exact hol) (by rw [U2_len];exact hml),Lh hne]|rw [Fw hol hml])⟩)) (by first|rfl|rw [U2_len,U2_len]|rw [U2_len]) (fun h=>Js hne Hr h) ?_
  refine Yq ?_;exact Gn .nores (hp:=⟨m1,k,by rw [AGo ht8 ht13 ht24];rw [h1],rfl,rfl⟩)
 refine Z1 ?_;refine A2 [2,3,7,29] ?_
 refine A3 (fun ht29=>?_) (fun ht29=>?_)
 ·rcases h1:Im L i with ⟨s,j⟩|⟨e,a⟩
  rotate_left
  ·exact (Dk hX (by first|exact by rw [bx ht8 ht13 ht24 ht29];rw [h1];rfl|exact h1)).elim
  have hj:=Jr hl hi _ _ h1
  refine Hy [0,0,2,6,15,31,63] [2] [.q 2 [] [],.s [33] (some 0) [] [],.s [34] none [0] []] (fun B=>U2 L Hp o om (if B 0=true then j else i) (mvO m)) (fun _=>[.cells 68 [.ptr o 0],.cells 132 [.ptr om 0]]) Ai (by kernel_rfl) rfl rfl (fun B=>by rw [U2_len];exact U2_len.symm) ?_
  apply Y.q
  ·intro B hT hF
   exact Z96
  case hTF=>decide
  refine Of (r:=Af s) (o:=o) (x0:=pmO L i) (x:=pmO L j) Tryz.call123 (fun B hB1 hB2 hB=>⟨by simp only [hB];exact Fd ho hne,(Gk hne).symm,rfl,Ex,?_⟩) ?_
  ·simp only [hB]
   exact (ABj L i o _ (Ar (Fd ho hne)) hi hll).ok h1
  refine AP9 ?_;refine Z0 ?_
  refine J1 jS (Gs hm) ?_ ?_
  ·simp [or_imp,forall_and]
  refine Ja ?_;refine T0 (g8 (m:=m) (s:=s)) ?_
  rcases h2:Dl L Lg j with ⟨u,j2⟩|⟨e,a⟩
  rotate_left
  ·exact (Dk hX (by first|exact by rw [bx ht8 ht13 ht24 ht29];rw [h1];show (Dl L Lg j).bind _=_;rw [h2];rfl|exact h2)).elim
  have hj2:=Hq hl hj.2 _ _ h2
  refine Z2 ?_;refine E2 (x:=pmO L j2) Tryz.call96 (Fd ho hne) (by simp) Ex ((c96 L Lg j o _ (Ar (Fd ho hne)) hj.2 hll).ok h2) ?_
  rw [Gk hne]
  refine Ja ?_
  rcases h3:Jp L 0 (G8 L) (takeS m s) j2 with ⟨m1,j3⟩|⟨e,a⟩
  rotate_left
  ·exact (Dk hX (by first|exact by rw [bx ht8 ht13 ht24 ht29];rw [h1];show (Dl L Lg j).bind _=_;rw [h2];show (Jp L 0 (G8 L) (takeS m s) j2).bind _=_;rw [h3];rfl|exact h3)).elim
  have hj3:=Um hl (N8 hl hll) (takeS m s) j2 ((hb.mono (by omega:2*i-1≤2*j2-1)).takeS (by omega)) (by omega) hj2.2 _ _ h3
  refine Z2 ?_;refine K1 ?_
  refine K2 (up':=U2 L Hp o om j3 (mvO m1)) (own':=[.cells 68 [.ptr o 0],.cells 132 [.ptr om 0]]) Tryz.call126 (((ANt L (0) (takeS m s) j2 o om 127 [.ptr (oid Hp.length 0) 0,.ptr (oid Hp.length 1) 0] (G8 L) (U2 L Hp o om j2 (mvO (takeS m s))++[.cells 68 [.ptr o 0],.cells 132 [.ptr om 0]]) hne (Ar (Fd ho hne)) (Ar (Gs hm)) (by omega) hj2.2 hl hll ((hb.mono (by omega:2*i-1≤2*j2-1)).takeS (by omega)) Tryz.call127 (ABq (z:=pmO L j2) (z':=mvO (takeS m s)) hne (Ar (Fd ho hne)) (Ar (Gs hm)) (ABr rfl) (ABr rfl) (La hol) (La hml) (La hol) (La hml) hl hll) (N8 hl hll)).ok h3).mono (fun r H' e=>⟨e.1,e.2.trans (by first|rw [Fw (by rw [U2_len];exact hol) (by rw [U2_len];exact hml),Lh hne]|rw [Fw hol hml])⟩)) (by first|rfl|rw [U2_len,U2_len]|rw [U2_len]) (fun h=>Js hne Hr h) ?_
  refine Ja ?_
  rcases h4:Ha L m1 j3 with ⟨m2,k⟩|⟨e,a⟩
  rotate_left
  ·exact (Dk hX (by first|exact by rw [bx ht8 ht13 ht24 ht29];rw [h1];show (Dl L Lg j).bind _=_;rw [h2];show (Jp L 0 (G8 L) (takeS m s) j2).bind _=_;rw [h3];show Ha L m1 j3=_;rw [h4]|exact h4)).elim
  refine Z31 ?_
  refine K2 (up':=U2 L Hp o om k (mvO m2)) (own':=[.cells 68 [.ptr o 0],.cells 132 [.ptr om 0]]) Tryz.call124 (((AKa L m1 j3 o om (U2 L Hp o om j3 (mvO m1)++[.cells 68 [.ptr o 0],.cells 132 [.ptr om 0]]) hne (Ar (Fd ho hne)) (Ar (Gs hm)) hj3.2.1 hl hll hj3.2.2).ok h4).mono (fun r H' e=>⟨e.1,e.2.trans (by first|rw [Fw (by rw [U2_len];exact hol) (by rw [U2_len];exact hml),Lh hne]|rw [Fw hol hml])⟩)) (by first|rfl|rw [U2_len,U2_len]|rw [U2_len]) (fun h=>Js hne Hr h) ?_
  refine Yq ?_;exact Gn .nores (hp:=⟨m2,k,by rw [bx ht8 ht13 ht24 ht29];rw [h1];show (Dl L Lg j).bind _=_;rw [h2];show (Jp L 0 (G8 L) (takeS m s) j2).bind _=_;rw [h3];show Ha L m1 j3=_;rw [h4],rfl,rfl⟩)
 refine Z1 ?_;refine A2 [2,3,7,45] ?_
 refine A3 (fun ht45=>?_) (fun ht45=>?_)
 ·rcases h1:Jp L 0 (Uk L) m i with ⟨m1,j⟩|⟨e,a⟩
  rotate_left
  ·exact (Dk hX (by first|exact by rw [ca ht8 ht13 ht24 ht29 ht45];rw [h1];rfl|exact h1)).elim
  have hj:=Um hl (bv hl) m i hb h0 hi _ _ h1
  refine Z2 ?_;refine K1 ?_
  refine K2 (up':=U2 L Hp o om j (mvO m1)) (own':=[.cells 68 [.ptr o 0],.cells 132 [.ptr om 0]]) Tryz.call126 (((ANt L (0) m i o om 128 [.ptr (oid Hp.length 1) 0,.ptr (oid Hp.length 0) 0] (Uk L) (U2 L Hp o om i (mvO m)++[.cells 68 [.ptr o 0],.cells 132 [.ptr om 0]]) hne (Ar (Fd ho hne)) (Ar (Gs hm)) h0 hi hl hll hb Tryz.call128 (ABp (z:=pmO L i) (z':=mvO m) hne (Ar (Fd ho hne)) (Ar (Gs hm)) (ABr rfl) (ABr rfl) (La hol) (La hml) (La hol) (La hml) hl hll) (bv hl)).ok h1).mono (fun r H' e=>⟨e.1,e.2.trans (by first|rw [Fw (by rw [U2_len];exact hol) (by rw [U2_len];exact hml),Lh hne]|rw [Fw hol hml])⟩)) (by first|rfl|rw [U2_len,U2_len]|rw [U2_len]) (fun h=>Js hne Hr h) ?_
  refine Ja ?_
  rcases h2:Dl L Lg j with ⟨u,j2⟩|⟨e,a⟩
  rotate_left
  ·exact (Dk hX (by first|exact by rw [ca ht8 ht13 ht24 ht29 ht45];rw [h1];show (Dl L Lg j).bind _=_;rw [h2];rfl|exact h2)).elim
  have hj2:=Hq hl hj.2.1 _ _ h2
  have hj2e:=Oy h2
  refine Z2 ?_;refine E2 (x:=pmO L j2) Tryz.call96 (Fd ho hne) (by simp) Ex ((c96 L Lg j o _ (Ar (Fd ho hne)) hj.2.1 hll).ok h2) ?_
  rw [Gk hne]
  refine Ja ?_
  rcases h3:G8 L m1 j2 with ⟨m2,j3⟩|⟨e,a⟩
  rotate_left
  ·exact (Dk hX (by first|exact by rw [ca ht8 ht13 ht24 ht29 ht45];rw [h1];show (Dl L Lg j).bind _=_;rw [h2];show (G8 L m1 j2).bind _=_;rw [h3];rfl|exact h3)).elim
  have hj3:=N8 hl hll m1 j2 (hj.2.2.mono (by omega)) (by omega) hj2.2 _ _ h3
  refine Z1 ?_
  refine K2 (up':=U2 L Hp o om j3 (mvO m2)) (own':=[.cells 68 [.ptr o 0],.cells 132 [.ptr om 0]]) Tryz.call122 (((AK9 L m1 j2 o om (U2 L Hp o om j2 (mvO m1)++[.cells 68 [.ptr o 0],.cells 132 [.ptr om 0]]) hne (Ar (Fd ho hne)) (Ar (Gs hm)) hj2.2 hl hll (hj.2.2.mono (by omega))).ok h3).mono (fun r H' e=>⟨e.1,e.2.trans (by first|rw [Fw (by rw [U2_len];exact hol) (by rw [U2_len];exact hml),Lh hne]|rw [Fw hol hml])⟩)) (by first|rfl|rw [U2_len,U2_len]|rw [U2_len]) (fun h=>Js hne Hr h) ?_
  refine Ja ?_
  rcases h4:Ha L m2 j3 with ⟨m3,k⟩|⟨e,a⟩
  rotate_left
  ·exact (Dk hX (by first|exact by rw [ca ht8 ht13 ht24 ht29 ht45];rw [h1];show (Dl L Lg j).bind _=_;rw [h2];show (G8 L m1 j2).bind _=_;rw [h3];show Ha L m2 j3=_;rw [h4]|exact h4)).elim
  refine Z31 ?_
  refine K2 (up':=U2 L Hp o om k (mvO m3)) (own':=[.cells 68 [.ptr o 0],.cells 132 [.ptr om 0]]) Tryz.call124 (((AKa L m2 j3 o om (U2 L Hp o om j3 (mvO m2)++[.cells 68 [.ptr o 0],.cells 132 [.ptr om 0]]) hne (Ar (Fd ho hne)) (Ar (Gs hm)) hj3.2.1 hl hll hj3.2.2).ok h4).mono (fun r H' e=>⟨e.1,e.2.trans (by first|rw [Fw (by rw [U2_len];exact hol) (by rw [U2_len];exact hml),Lh hne]|rw [Fw hol hml])⟩)) (by first|rfl|rw [U2_len,U2_len]|rw [U2_len]) (fun h=>Js hne Hr h) ?_
  refine Yq ?_;exact Gn .nores (hp:=⟨m3,k,by rw [ca ht8 ht13 ht24 ht29 ht45];rw [h1];show (Dl L Lg j).bind _=_;rw [h2];show (G8 L m1 j2).bind _=_;rw [h3];show Ha L m2 j3=_;rw [h4],rfl,rfl⟩)
 refine Z1 ?_;refine A2 [2,3,58] ?_
 refine A3 (fun ht58=>?_) (fun ht58=>?_)
 ·rcases h1:G8 L m i with ⟨m1,j⟩|⟨e,a⟩
  rotate_left
  ·exact (Dk hX (by first|exact by rw [ur ht8 ht13 ht24 ht29 ht45 ht58];rw [h1];rfl|exact h1)).elim
  have hj:=N8 hl hll m i hb h0 hi _ _ h1
  refine Z1 ?_
  refine K2 (up':=U2 L Hp o om j (mvO m1)) (own':=[.cells 68 [.ptr o 0],.cells 132 [.ptr om 0]]) Tryz.call122 (((AK9 L m i o om (U2 L Hp o om i (mvO m)++[.cells 68 [.ptr o 0],.cells 132 [.ptr om 0]]) hne (Ar (Fd ho hne)) (Ar (Gs hm)) hi hl hll hb).ok h1).mono (fun r H' e=>⟨e.1,e.2.trans (by first|rw [Fw (by rw [U2_len];exact hol) (by rw [U2_len];exact hml),Lh hne]|rw [Fw hol hml])⟩)) (by first|rfl|rw [U2_len,U2_len]|rw [U2_len]) (fun h=>Js hne Hr h) ?_
  refine Ja ?_;refine Hy [0,0,2,6,14,30,62,126,254,511,1023,2047] [] [.q 8 [] [],.s [71] none [] []] (fun _=>U2 L Hp o om j (mvO m1)) (fun _=>[.cells 68 [.ptr o 0],.cells 132 [.ptr om 0]]) Ai (by kernel_rfl) rfl rfl (fun B=>rfl) ?_
  apply Y.q
  ·intro B hT hF
   refine Tq ?_
   refine Ak (h:=Cm (Gs hm)) (hr:=?_)
   refine Ak (h:=Ac (0) (Bj (m1.give.getD 0 ⟨[],0⟩)) (fun _=>AGm h1)) (hr:=?_)
   exact Z96
  case hTF=>decide
  refine Y.buildSlice jU Tryz.sizeOf9 Tryz.zeroValue9 ?_;refine Gx (tn:=[]) (U:=U2 L Hp o om j (mvO m1)) ?_;refine Z0 ?_
  refine J1 jS (Gs hm) ?_ ?_
  ·simp [or_imp,forall_and]
  refine Ja ?_;refine T0 (ABs (m:=m1) (c:=m1.give.getD 0 ⟨[],0⟩)) ?_
  rcases h2:Ha L (takeS m1 (m1.give.getD 0 ⟨[],0⟩).name) j with ⟨m2,k⟩|⟨e,a⟩
  rotate_left
  ·exact (Dk hX (by first|exact by rw [ur ht8 ht13 ht24 ht29 ht45 ht58];rw [h1];show Ha L (takeS m1 (m1.give.getD 0 ⟨[],0⟩).name) j=_;rw [h2]|exact h2)).elim
  refine Z31 ?_
  refine K2 (up':=U2 L Hp o om k (mvO m2)) (own':=[.cells 68 [.ptr o 0],.cells 132 [.ptr om 0]]) Tryz.call124 (((AKa L (takeS m1 (m1.give.getD 0 ⟨[],0⟩).name) j o om (U2 L Hp o om j (mvO (takeS m1 (m1.give.getD 0 ⟨[],0⟩).name))++[.cells 68 [.ptr o 0],.cells 132 [.ptr om 0]]) hne (Ar (Fd ho hne)) (Ar (Gs hm)) hj.2.1 hl hll (hj.2.2.takeS (by omega))).ok h2).mono (fun r H' e=>⟨e.1,e.2.trans (by first|rw [Fw (by rw [U2_len];exact hol) (by rw [U2_len];exact hml),Lh hne]|rw [Fw hol hml])⟩)) (by first|rfl|rw [U2_len,U2_len]|rw [U2_len]) (fun h=>Js hne Hr h) ?_
  refine Yq ?_;exact Gn .nores (hp:=⟨m2,k,by rw [ur ht8 ht13 ht24 ht29 ht45 ht58];rw [h1];show Ha L (takeS m1 (m1.give.getD 0 ⟨[],0⟩).name) j=_;rw [h2],rfl,rfl⟩)
 refine ADi ?_;exact Gn .nores (hp:=⟨m,i,ANu ht8 ht13 ht24 ht29 ht45 ht58,rfl,rfl⟩)

def ASf:Str:=[32,97,100,100,32,100,114,111,112,32,114,101,110,97,109,101,32,115,112,108,105,116,32,109,101,114,103,101,32,114,101,116,121,112,101]
theorem ABt:Px ASf [32]=migWords:=by kernel_rfl
theorem AVf (k:Int) (Hp:List AObj):AFun Tryz.prog 121 [A5 k] Hp (Af (Fa k)):=by
 refine Ah [.tmp 2] [0] Tryz.func121 Tryz.ntmps121 (fun d=>?_)
 refine j4 ?_;refine Z97 ?_;refine A2 [0,8] ?_
 refine A3 (fun ht8=>?_) (fun ht8=>?_)
 ·have hm:Fa k=[]:=if_pos ht8
  exact ADe
 have hm:Fa k=migWords.getD k.toNat []:=if_neg (by rw [ht8];simp)
 refine rk ?_;refine A9 Tryz.call90 (c90 ASf [32] (by decide) (by decide) _) ?_
 rw [ABt]
 refine A4 ?_
 have hk:1≤k∧k≤6:=by simp at ht8;omega
 have hget:(migWords.map Af)[k.toNat]? = some (Af (migWords.getD k.toNat [])):=by
  have hlt:k.toNat<migWords.length:=by show k.toNat<7;omega
  rw [Ce,Aa hlt,D4,Aa hlt]
  rfl
 refine A4 (h:=Ac (k.toNat) (Af (migWords.getD k.toNat [])) (fun _=>hget)) (hr:=?_)
 exact APo

theorem ABu {s:Str} {x:Nat} (h:∀j:Nat,j<x→(Fa ((j:Int)+1)==s)=false) (hx:x<6) (he:(Fa ((x:Int)+1)==s)=true):Iw s=(x:Int)+1:=by
 have a:∀j:Nat,j<x→∀k:Int,k=(j:Int)+1→(Fa k==s)=false:=fun j hj k e=>by rw [e];exact h j hj
 have b:∀k:Int,k=(x:Int)+1→(Fa k==s)=true:=fun k e=>by rw [e];exact he
 have h6:x=0∨x=1∨x=2∨x=3∨x=4∨x=5:=by omega
 unfold Iw
 rcases h6 with rfl|rfl|rfl|rfl|rfl|rfl
 ·rw [if_pos (b 1 rfl)];rfl
 ·rw [if_neg (by rw [a 0 (by omega) 1 rfl];simp),if_pos (b 2 rfl)];rfl
 ·rw [if_neg (by rw [a 0 (by omega) 1 rfl];simp),if_neg (by rw [a 1 (by omega) 2 rfl];simp),if_pos (b 3 rfl)];rfl
 ·rw [if_neg (by rw [a 0 (by omega) 1 rfl];simp),if_neg (by rw [a 1 (by omega) 2 rfl];simp),if_neg (by rw [a 2 (by omega) 3 rfl];simp),if_pos (b 4 rfl)];rfl
 ·rw [if_neg (by rw [a 0 (by omega) 1 rfl];simp),if_neg (by rw [a 1 (by omega) 2 rfl];simp),if_neg (by rw [a 2 (by omega) 3 rfl];simp),if_neg (by rw [a 3 (by omega) 4 rfl];simp),if_pos (b 5 rfl)];rfl
 rw [if_neg (by rw [a 0 (by omega) 1 rfl];simp),if_neg (by rw [a 1 (by omega) 2 rfl];simp),if_neg (by rw [a 2 (by omega) 3 rfl];simp),if_neg (by rw [a 3 (by omega) 4 rfl];simp),if_neg (by rw [a 4 (by omega) 5 rfl];simp),if_pos (b 6 rfl)];rfl
theorem pq {s:Str} {x:Nat} (h:∀j:Nat,j<x→(Fa ((j:Int)+1)==s)=false) (he:(Fa ((x:Int)+1)==s)=false):∀j:Nat,j<x+1→(Fa ((j:Int)+1)==s)=false:=fun j hj=>by
 rcases Be j x with h1|h1
 ·exact h j h1
 rw [show j=x by omega];exact he
theorem ABv {s:Str} {x:Nat} (h:∀j:Nat,j<x→(Fa ((j:Int)+1)==s)=false) (hx:6≤x):Iw s=0:=by
 have a:∀j:Nat,j<6→∀k:Int,k=(j:Int)+1→(Fa k==s)=false:=fun j hj k e=>by rw [e];exact h j (by omega)
 unfold Iw
 rw [if_neg (by rw [a 0 (by omega) 1 rfl];simp),if_neg (by rw [a 1 (by omega) 2 rfl];simp),if_neg (by rw [a 2 (by omega) 3 rfl];simp),if_neg (by rw [a 3 (by omega) 4 rfl];simp),if_neg (by rw [a 4 (by omega) 5 rfl];simp),if_neg (by rw [a 5 (by omega) 6 rfl];simp)]
theorem c94 (s:Str) (Hp:List AObj):AFun Tryz.prog 94 [Af s] Hp (A5 (Iw s)):=by
 refine Ah [.tmp 2] [0] Tryz.func94 Tryz.ntmps94 (fun d=>?_)
 refine rr ?_;refine Oj ?_
 refine Az (α:=Nat) (fun x=>⟨13,A6 0 (Af s) (A6 3 (A5 ((x:Nat)+1)) (fun _=>.any)),Hp,[],[],none⟩) (fun x=>∀j:Nat,j<x→(Fa ((j:Int)+1)==s)=false) (fun x=>6-x) (0) (fun j h=>by omega) (F6 _) rfl (fun x hx=>?_)
 refine Z8 ?_;refine A2 [0,3,5] ?_
 refine A3 (fun ht5=>?_) (fun ht5=>?_)
 ·have hx6:x<6:=by simp at ht5;omega
  refine rq ?_;refine A9 Tryz.call121 (AVf _ _) ?_;refine Z0 ?_;refine A2 [0,3,11] ?_
  refine A3 (fun ht11=>?_) (fun ht11=>?_)
  ·refine j5 ?_;refine Z73 ?_;exact A8 (Ae A7) ⟨by rw [ABu hx hx6 ht11],rfl⟩
  refine re ?_
  refine Ay (x+1) (pq hx ht11) (by omega) (Bh rfl)
 have hx6:6≤x:=by simp at ht5;omega
 refine m9 ?_;exact A8 (Ae A7) ⟨by rw [ABv hx hx6],rfl⟩

theorem ANv {L:List Tok} {Hp own:List AObj} {o i n:Nat} {x:AObj} (h1:o<Hp.length):U2 L (Hp++own) o (oid Hp.length n) i x=Hp.set o (pmO L i)++own.set n x:=by
 unfold U2 oid
 rw [Lk _ _ h1,gz,if_neg (by simp),Dx,Tc]
theorem AGp {L:List Tok} {Hp:List AObj} {o i j n:Nat} (h:∀z∈Hp.set o (pmO L i),ObjLow n z):∀z∈Hp.set o (pmO L j),ObjLow n z:=by
 intro z hz
 rw [show Hp.set o (pmO L j)=(Hp.set o (pmO L i)).set o (pmO L j) by rw [E0]] at hz
 rcases My hz with hz|rfl
 ·exact h z hz
 exact Ex
theorem c66 (L:List Tok) (i o:Nat) (Hp:List AObj) (ho:Hp[o]? = some (pmO L i)) (hi:i<L.length) (hl:TokEnd L) (hll:L.length≤500000):CP 66 [.ptr o 0] Hp (Qf L i) (fun m j r H'=>r=Fv m∧H'=Hp.set o (pmO L j)) (W1 L o Hp):=by
 refine ⟨fun hX=>?_⟩
 have hol:=(Ad.1 ho).1
 have hne:oid Hp.length 2≠o:=by unfold oid;omega
 refine Ah [.cell 2 54] [0] Tryz.func66 Tryz.ntmps66 (fun d=>?_)
 refine Z67 ?_;refine AM3 ?_;refine lm ?_;refine Z1 ?_;refine A9 Tryz.call94 (c94 (Aq L i).text _) ?_;refine S5 (places:=#[(0,1),(1,1),(2,1),(3,1),(4,1)]) jU (fun w=>by simp) jZ ?_;refine Z20 ?_;refine A2 [0,2,3,4] ?_;refine Z74 ?_;refine Sa 2 1 1 ?_;refine Sa 2 2 2 ?_;refine Sa 2 3 6 ?_;refine Sa 2 4 6 ?_;refine Z70 ?_;refine Oh ?_;refine A2 [0,2,4,18] ?_
 refine A3 (fun ht18=>?_) (fun ht18=>?_)
 ·have e:Qf L i=.bad 8 (Aq L i).at_:=if_pos ht18
  exact ADx
 have e0:Qf L i=(Jq L (⟨Iw (Aq L i).text,[],[],[],[]⟩:Mov) (i+1)).bind fun m j=>(Dl L [59] j).bind fun _ j=>.ok m j:=if_neg (by rw [ht18];simp)
 have hi1:i+1<L.length:=hl.step hi (by simp only [Cq,bne_eq_false_iff_eq] at ht18;rw [ht18.1];decide)
 refine No ?_
 refine A4 (h:=Cm ho) (hr:=?_)
 refine Z10 ?_
 refine Gm jS ho ?_ ?_
 ·simp
 refine A2 [0,2,4] ?_
 rcases hR:Jq L (⟨Iw (Aq L i).text,[],[],[],[]⟩:Mov) (i+1) with ⟨m1,k⟩|⟨e,a⟩
 rotate_left
 ·exact (Dk hX (by first|exact by rw [e0];rw [hR];rfl|exact hR)).elim
 have hk:=xg hl hll (⟨Iw (Aq L i).text,[],[],[],[]⟩:Mov) (i+1) ⟨Ap _,Ap _,Ap _,Ap _⟩ (by omega) hi1 _ _ hR
 refine Z2 ?_
 refine K2 (up':=Hp.set o (pmO L k)) (own':=[.cells 54 [A5 0,.nil,.nil,.nil,.nil],.cells 103 [.v (.int .i64 (Aq L i).kind),.v (sv (Aq L i).text),.v (.int .i64 ((Aq L i).at_:Int))],mvO m1]) Tryz.call95 (((c95 L (⟨Iw (Aq L i).text,[],[],[],[]⟩:Mov) (i+1) o (oid Hp.length 2) (Hp.set o (pmO L (i+1))++[.cells 54 [A5 0,.nil,.nil,.nil,.nil],.cells 103 [.v (.int .i64 (Aq L i).kind),.v (sv (Aq L i).text),.v (.int .i64 ((Aq L i).at_:Int))],mvO (⟨Iw (Aq L i).text,[],[],[],[]⟩:Mov)]) hne (by rw [Dh (by simpa using hol)];exact getset ho) (by unfold oid;rw [Dn (by simp)];simp) hi1 hl hll ⟨Ap _,Ap _,Ap _,Ap _⟩ (by omega)).ok hR).mono (fun r H' e=>⟨e.1,e.2.trans (by rw [show oid Hp.length 2=oid (Hp.set o (pmO L (i+1))).length 2 by simp];rw [ANv (by simpa using hol),E0];rfl)⟩)) (by simp) (fun h=>by simpa using AGp h) ?_
 refine A2 [0,2,4] ?_
 rcases hW:Dl L [59] k with ⟨u,j2⟩|⟨e,a⟩
 rotate_left
 ·exact (Dk hX (by first|exact by rw [e0];rw [hR];show (Dl L [59] k).bind _=_;rw [hW];rfl|exact hW)).elim
 refine Z2 ?_;refine E2 (x:=pmO L j2) Tryz.call96 (getset ho) (by simp) Ex ((c96 L [59] k o _ (Ar (getset ho)) hk.2.1 hll).ok hW) ?_
 rw [E0]
 refine A2 [2,4] ?_;refine Z2 ?_;refine Z16 ?_;exact A8 (Ae (B8 jA jS)) (hp:=⟨m1,j2,by rw [e0];rw [hR];show (Dl L [59] k).bind _=_;rw [hW];rfl,rfl,rfl⟩) (hlow:=ou)

/-- What mig.parser.moves comes to: the moves, or none and the fault. -/
def T5 (L:List Tok):List Mov×Int×Int:=match L9 L with
 | .ok l _=>(l,0,0)
 | .bad e a=>([],e,a)
abbrev kq (L:List Tok):AV:=.tup [E6 (T5 L).1,.agg [A5 (T5 L).2.1,A5 (T5 L).2.2]]
theorem AKb {fc:Func} {r0 crest:Code} (hf:Tryz.prog.funcs[63]? = some fc) (hb:fc.body=some (.seq r0 crest)) (d a b:Nat) (H:List AObj):AW Tryz.prog (d+1) crest ⟨8,A6 2 (.v .nilIface) (A6 3 (.v .nilIface) (Go.SX.argsF [.ptr a 0,.ptr b 0])),H,[],[],none⟩ (fun e s2=>(e=.normal∨e=.ret)∧s2.defs=[]∧s2.up=H):=by
 have e:=Tryz.func63.symm.trans hf
 injection e with e
 subst e
 injection hb with hb
 injection hb with h1 h2
 subst h2
 refine dn [0,1,2] (by simp only [go_sem,↓reduceIte,Nat.reduceEqDiff,Nat.reduceAdd]<;>rfl) ?_
 refine Z2 ?_;refine R.neqNil0 jU ?_;refine A2 [0,1,2,5] ?_
 refine A3 (fun ht5=>?_) (fun ht5=>?_)
 ·cases ht5
 refine Je ?_;exact ⟨.inl rfl,rfl,rfl⟩

/-- Where the loop of moves stands. -/
structure MovAt (L:List Tok) (x:List Mov×Nat):Prop where
 lt:x.2<L.length
 le:x.1.length≤8
 at_:L9 L=Ox L (9-x.1.length) x.1 x.2
theorem AKc {L:List Tok} (hl:TokEnd L) (hll:L.length≤500000) {i:Nat} (hi:i<L.length) {m:Mov} {j:Nat} (h:Qf L i=.ok m j):i<j∧j<L.length:=by
 unfold Qf at h
 split at h
 ·cases h
 rename_i h0
 have hi1:i+1<L.length:=hl.step hi (by
  simp only [Co,not_or,Uq,bne_eq_false_iff_eq] at h0
  rw [h0.1];decide)
 obtain ⟨m1,k,h1,h2⟩:=bw h
 obtain ⟨u,j2,h3,h4⟩:=bw h2
 injection h4 with h5 h6
 subst h6
 obtain ⟨a1,a2,_⟩:=xg hl hll _ (i+1) ⟨Ap _,Ap _,Ap _,Ap _⟩ (by omega) hi1 _ _ h1
 obtain ⟨b1,b2⟩:=Hq hl a2 _ _ h3
 exact ⟨by omega,b2⟩
theorem Qg {L:List Tok} {l:List Mov} {i:Nat} (hl:l.length≤8):Ox L (9-l.length) l i=if (Aq L i).kind != 0 then (if (l.length:Int)==8 then g0 L i 3 else (Qf L i).bind fun m j=>Ox L (8-l.length) (l++[m]) j) else .ok l i:=by
 rw [show 9-l.length=(8-l.length)+1 by omega,Ox]
theorem MovAt.out {L:List Tok} {x:List Mov×Nat} (h:MovAt L x) (hk:((Aq L x.2).kind != 0)=false):L9 L=.ok x.1 x.2:=by
 rw [h.at_,Qg h.le,if_neg (by rw [hk];simp)]
theorem MovAt.long {L:List Tok} {x:List Mov×Nat} (h:MovAt L x) (hk:((Aq L x.2).kind != 0)=true) (h8:((x.1.length:Int)==8)=true):L9 L=.bad 3 (Aq L x.2).at_:=by
 rw [h.at_,Qg h.le,if_pos hk,if_pos h8];rfl
theorem MovAt.step {L:List Tok} {x:List Mov×Nat} (h:MovAt L x) (hk:((Aq L x.2).kind != 0)=true) (h8:((x.1.length:Int)==8)=false):L9 L=(Qf L x.2).bind fun m j=>Ox L (8-x.1.length) (x.1++[m]) j:=by
 rw [h.at_,Qg h.le,if_pos hk,if_neg (by rw [h8];simp)]
theorem MovAt.bad {L:List Tok} {x:List Mov×Nat} (h:MovAt L x) (hk:((Aq L x.2).kind != 0)=true) (h8:((x.1.length:Int)==8)=false) {e a:Int} (hM:Qf L x.2=.bad e a):L9 L=.bad e a:=by
 rw [h.step hk h8,hM];rfl
theorem MovAt.on {L:List Tok} (hl:TokEnd L) (hll:L.length≤500000) {x:List Mov×Nat} (h:MovAt L x) (hk:((Aq L x.2).kind != 0)=true) (h8:((x.1.length:Int)==8)=false) {m:Mov} {j:Nat} (hM:Qf L x.2=.ok m j):MovAt L (x.1++[m],j)∧x.2<j:=by
 obtain ⟨a1,a2⟩:=AKc hl hll h.lt hM
 have h1:x.1.length≤7:=by
  have:=h.le
  simp only [beq_eq_false_iff_ne,ne_eq] at h8
  omega
 refine ⟨⟨a2,by show (x.1++[m]).length≤8;simp;omega,?_⟩,a1⟩
 rw [h.step hk h8,hM]
 show Ox L (8-x.1.length) (x.1++[m]) j=Ox L (9-(x.1++[m]).length) (x.1++[m]) j
 rw [show 9-(x.1++[m]).length=8-x.1.length by rw [Ao,Kf];omega]
theorem ABw {L:List Tok} {l:List Mov} {i:Nat} (h:L9 L=.ok l i):kq L=.tup [E6 l,.agg [A5 0,A5 0]]:=by unfold kq T5;rw [h]
theorem AKd {fn fc:Func} {x0 r1 y r0 crest:Code} (hf:Tryz.prog.funcs[38]? = some fn) (hb:fn.body=some (.seq x0 (.seq r1 y))) (hf2:Tryz.prog.funcs[63]? = some fc) (hb2:fc.body=some (.seq r0 crest)) (L:List Tok) (o:Nat) (Hp:List AObj) (ho:Hp[o]? = some (pmO L 0)) (hl:TokEnd L) (hll:L.length≤500000) (hX:∃l i,L9 L=.ok l i) (d:Nat):
  AW Tryz.prog (d+1) y ⟨21,A6 0 (.ptr o 0) (A6 2 (.ptr (oid Hp.length 0) 0) (A6 3 (.ptr (oid Hp.length 1) 0) (A6 4 (.fn (.func 63) [] [.ptr (oid Hp.length 0) 0,.ptr (oid Hp.length 1) 0]) fun _=>.any))),Hp,[.cells 23 [.nil],.cells 38 [A5 0,A5 0]],[],none⟩ (KG Tryz.prog crest 8 3 2 [.ptr (oid Hp.length 0) 0,.ptr (oid Hp.length 1) 0] [.cell 2 23,.cell 3 38] Hp.length (fun r H'=>r=kq L∧∃i,H'=Hp.set o (pmO L i))):=by
 have e:=Tryz.func38.symm.trans hf
 injection e with e
 subst e
 injection hb with hb
 injection hb with h1 h2
 injection h2 with h2 h3
 subst h3
 refine dn [0,2,3] (by simp only [go_sem,↓reduceIte,Nat.reduceEqDiff,Nat.reduceAdd]<;>rfl) ?_
 refine T0 (Jh ho).symm ?_;refine Mh ?_
 refine Az (α:=List Mov×Nat) (fun x=>⟨21,A6 0 (.ptr o 0) (A6 2 (.ptr (oid Hp.length 0) 0) (A6 3 (.ptr (oid Hp.length 1) 0) (fun _=>.any))),Hp.set o (pmO L x.2),[.cells 23 [.slice true 5 (x.1.map Fv)],.cells 38 [A5 0,A5 0]],[],none⟩) (fun x=>MovAt L x) (fun x=>L.length-x.2) (([],0)) ⟨hl.pos,by decide,rfl⟩ (StLe.nilCell (own:=[.cells 23 [.nil],.cells 38 [A5 0,A5 0]]) (n:=0) (j0:=0) (k:=5) (t:=23) (cs:=[.nil]) rfl rfl) rfl (fun x hx=>?_)
 refine Z29 ?_;refine A9 Tryz.call64 (c64 L x.2 o _ (Ar (getset ho)) hx.lt) ?_;refine Z0 ?_;refine A2 [0,2,3,8] ?_
 refine A3 (fun ht8=>?_) (fun ht8=>?_)
 ·have hk:((Aq L x.2).kind != 0)=true:=ht8
  refine ADl ?_;refine Z33 ?_;refine A2 [0,2,3,11] ?_
  refine A3 (fun ht11=>?_) (fun ht11=>?_)
  ·have h8:((x.1.length:Int)==8)=true:=by rw [Am] at ht11;exact ht11
   exact (Dk hX (hx.long hk h8)).elim
  have h8:((x.1.length:Int)==8)=false:=by rw [Am] at ht11;exact ht11
  refine Z4 ?_
  rcases hM:Qf L x.2 with ⟨m,j⟩|⟨e,a⟩
  rotate_left
  ·exact (Dk hX (by first|exact hx.bad hk h8 hM|exact hM)).elim
  have hon:=hx.on hl hll hk h8 hM
  refine W.drawY0 [0,0,2,6,15,31] [0,2] [.s [14] (some 0) [] [],.q 1 [] [1],.s [16] (some 1) [] [],.q 1 [1] []] (fun B=>Hp.set o (pmO L (if B 1=true then j else x.2))) (fun B=>if B 0=true then [.cells 23 [.slice false 5 (x.1.map Fv)],.cells 38 [A5 0,A5 0]] else [.cells 23 [.slice true 5 (x.1.map Fv)],.cells 38 [A5 0,A5 0]]) Ai (by kernel_rfl) rfl rfl (fun B=>by simp) ?_
  refine Y.loadOwnT (u:=Hp.length) (n:=0) (t':=23) (cs:=[.slice true 5 (x.1.map Fv)]) (cs':=[.slice false 5 (x.1.map Fv)]) Tryz.isAgg23 (fun B hB=>⟨by simp,by simp only [hB];rfl,by simp only [hB];rfl,rfl⟩) ?_
  apply Y.q
  ·intro B hT hF
   exact Yo
  case hTF=>decide
  refine Of (r:=Fv m) (o:=o) (x0:=pmO L x.2) (x:=pmO L j) Tryz.call66 (fun B hB1 hB2 hB=>⟨by simp only [hB];exact getset ho,by simp only [hB];exact (E0 ..).symm,rfl,Ex,?_⟩) ?_
  ·simp only [hB]
   exact ((c66 L x.2 o _ (Ar (getset ho)) hx.lt hl hll).ok hM)
  apply Y.q
  ·intro B hT hF
   exact Z81
  case hTF=>decide
  refine Gx (tn:=[0,2]) (U:=Hp.set o (pmO L j)) (O:=[.cells 23 [.slice false 5 (x.1.map Fv)],.cells 38 [A5 0,A5 0]]) ?_
  refine Ee jU Tryz.type54 ?_ ?_ ?_
  ·simp [Tryz.t54];have:=hx.le;omega
  ·simp [Tryz.t54];have:=hx.le;omega
  refine ip jS ?_;refine A2 [0,2,3] ?_;refine L3 ?_
  refine Ay (x.1++[m],j) hon.1 (by have:=hx.lt;have:=hon.2;show L.length-j<L.length-x.2;omega) (Bh (by simp [C4,show Tryz.t54.size=5 from rfl]))
 have hk:((Aq L x.2).kind != 0)=false:=ht8
 have e:=hx.out hk
 refine Xc ?_;refine APz ?_;refine r9 ?_;refine Dd ?_;exact KG.fin .ret (B1 (Hg Tryz.isAgg23) (B8 Tryz.isAgg38 Tryz.sizeOf38)) (fun d=>AKb hf2 hb2 d _ _ _) ⟨(ABw e).symm,x.2,rfl⟩ (hlow:=by simpa using (Fg (n:=Hp.length) (k:=5) (o:=false) (l:=x.1)))

theorem c38 (L:List Tok) (o:Nat) (Hp:List AObj) (ho:Hp[o]? = some (pmO L 0)) (hl:TokEnd L) (hll:L.length≤500000) (hX:∃l i,L9 L=.ok l i):ACall Tryz.prog 38 [.ptr o 0] Hp (fun r H'=>r=kq L∧∃i,H'=Hp.set o (pmO L i)):=by
 refine ACall.guarded (n:=21) (nc:=8) (a:=3) (b:=2) (os:=[oid Hp.length 0,oid Hp.length 1]) (own0:=[.cells 23 [.nil],.cells 38 [A5 0,A5 0]]) (rs:=[.cell 2 23,.cell 3 38])
  (fr0:=A6 0 (.ptr o 0) (A6 2 (.ptr (oid Hp.length 0) 0) (A6 3 (.ptr (oid Hp.length 1) 0) fun _=>.any))) (fr1:=A6 0 (.ptr o 0) (A6 2 (.ptr (oid Hp.length 0) 0) (A6 3 (.ptr (oid Hp.length 1) 0) (A6 4 (.fn (.func 63) [] [.ptr (oid Hp.length 0) 0,.ptr (oid Hp.length 1) 0]) fun _=>.any))))
  Tryz.func38 rfl rfl Tryz.ntmps38 (by simp) Tryz.func63 rfl Tryz.ntmps63 rfl (by simp) (by decide) (by decide) Tryz.call63 (fun d=>?_) (fun d=>?_) rfl (fun d l=>?_)
 ·refine dn [0] (by simp only [go_sem,↓reduceIte,Nat.reduceEqDiff,Nat.reduceAdd]<;>rfl) ?_
  refine Ix ?_;refine Mj ?_;refine Mj ?_;refine A2 [0,2,3] ?_;exact ⟨rfl,rfl⟩
 ·refine K1 ?_;refine A2 [0,2,3,4] ?_
  rfl
 exact @AKd { b:=ErrAt.b,bd:=d+1,bl:=l } _ _ _ _ _ _ _ Tryz.func38 rfl Tryz.func63 rfl L o Hp ho hl hll hX d
theorem ANw {s:Str} (h:((I7 s).2.1 != 0)=false):Xj s=T5 (I7 s).1:=by
 unfold Xj T5
 rw [if_neg (by rw [h];simp)]
 cases L9 (I7 s).1<;>rfl
theorem c17 (s:Str) (hs:s.length≤1048576) (hz0:(I7 s).2.1=0) (hX:∃l i,L9 (I7 s).1=.ok l i) (Hp:List AObj):AFun Tryz.prog 17 [Af s] Hp (.tup [E6 (Xj s).1,.agg [A5 (Xj s).2.1,A5 (Xj s).2.2]]):=by
 refine Ah [.tmp 2,.cell 3 38] [0] Tryz.func17 Tryz.ntmps17 (fun d=>?_)
 refine Z2 ?_;refine Mj ?_;refine Oj ?_;refine Z2 ?_;refine A9 Tryz.call37 (c37 s hs _) ?_;refine Z10 ?_;refine ALi ?_;refine A2 [3,4,5] ?_;refine Z33 ?_;refine A2 [3,4,5,13] ?_
 refine A3 (fun ht13=>?_) (fun ht13=>?_)
 ·rw [hz0] at ht13;cases ht13
 have hz:(I7 s).2.1=0:=by simpa using ht13
 have hle:=AIg hz
 have hlen:=AIr hz
 have e:=ANw ht13
 refine Z92 ?_;refine j7 ?_;refine R.box ?_
 refine R.callEx (fun _=>Hp) (fun i=>[.cells 38 [A5 0,A5 0],.cells 38 [A5 (I7 s).2.1,A5 ((I7 s).2.2:Nat)],pmO (I7 s).1 i]) Tryz.call38 ((c38 (I7 s).1 (oid Hp.length 2) _ (by rw [C0];rfl) hle (by omega) hX).mono (fun r H' ⟨e,i,h⟩=>⟨e,i,h.trans (by rw [Hm];rfl)⟩)) (fun _=>rfl) (fun _ h=>h) (fun i=>?_)
 refine Z10 ?_;refine r9 ?_;refine Dd ?_;exact A8 (B1 A7 (B8 jA jS)) ⟨by rw [e],rfl⟩ (hlow:=by simpa using (Fg (n:=Hp.length) (k:=5) (o:=false) (l:=(T5 (I7 s).1).1)))

/-! How long plan.Text's pieces are. -/
section
variable {O X U:List AObj} {i:Nat} {b y:AObj}
end
/-- Moves whose numbers are ones of 64 bits. -/
structure RngMv (m:Mov):Prop where
 ahead:∀e∈m.ahead,Et L5 e=true
 back:∀e∈m.back,Et L5 e=true
theorem pt {l:List Expr} (h20:l.length≤1048576) (h:l.any Zz=false) (hr:∀e∈l,Et L5 e=true):OkEs l:=by
 have h1:∀e∈l,Slim e:=fun e he=>AI9 (by
  rw [M8] at h
  simpa using h e he)
 exact ⟨h20,fun e he=>(h1 e he).ok,fun e he=>by have:=(h1 e he).size;omega,hr⟩
theorem ABx {m:Mov} (h:Ms m=false) (hr:RngMv m):OkMov m:=by
 unfold Ms at h
 simp only [Cq,decide_eq_false_iff_not] at h
 obtain ⟨⟨⟨⟨⟨⟨h1,h2⟩,h3⟩,h4⟩,h5⟩,h6⟩,h7⟩:=h
 have h50:m.give.length≤1000000:=by
  unfold J6 at h1
  simp only [Cq,decide_eq_false_iff_not] at h1
  omega
 refine ⟨by omega,fun s hs=>?_,w4 h1,h50,pt (by omega) h6 hr.ahead,pt (by omega) h7 hr.back⟩
 rw [M8] at h5
 have:=h5 s hs
 simp only [decide_eq_true_eq] at this
 omega
theorem g9 {l:List Mov} (h:Jn l=false) (hr:∀m∈l,RngMv m):OkMovs l:=by
 unfold Jn at h
 simp only [Cq,decide_eq_false_iff_not] at h
 refine ⟨by omega,fun m hm=>ABx ?_ (hr m hm)⟩
 rw [M8] at h
 simpa using h.2 m hm
theorem AGq {c:List Col} (h:J6 c=false):c.length≤1000000:=by
 unfold J6 at h
 simp only [Cq,decide_eq_false_iff_not] at h
 omega
/-! fuse: the chapter's example, and the weight of trees. -/
/-! ref21.Over: names that nothing has stand between. -/
/-! How great the trees of ref21.Over are on the way. -/
theorem ANx {l:List Mov} (h:(l.all fun m=>m.ahead.all (fun e=>Et L5 e)&&m.back.all (fun e=>Et L5 e))=true):∀m∈l,RngMv m:=fun m hm=>by
 have:=B5.1 h m hm
 rw [As] at this
 exact ⟨fun e he=>B5.1 this.1 e he,fun e he=>B5.1 this.2 e he⟩
theorem kr {c:List Col} {l:List Mov} {row:List Val} (h:OkMovs l) (h0:RowI (colsAt c l l.length) row):∀k,k≤l.length→(bkM c l row k).2=0→BkAt c l row k
 | 0,_,_=>.zero h0
 | k+1,hk,he=>by
  have h1:(bkM c l row k).2=0:=Hs fun hn=>by
   rw [kp hn (k+1) (by omega)] at he
   exact hn he
  obtain ⟨m,hm⟩:∃m,l[l.length-1-k]? = some m:=⟨l[l.length-1-k],Aa (by omega)⟩
  refine (kr h h0 k (by omega) h1).next (by omega) hm (fun e he=>(h.each m (B3 hm)).back.rng e he) ?_
  rw [←Ui hm h1]
  exact he
theorem ga {c:List Col} {l:List Mov} {row:List Val} (h:OkMovs l) (hrr:∀v∈row, -9223372036854775808≤v.n∧v.n≤9223372036854775807) (hb:(Ca c l row).2=0):RowI c (Ca c l row).1:=by
 unfold Ca at hb ⊢
 split at hb
 ·cases hb
 rename_i h1
 rw [if_neg h1]
 have h2:F9 (colsAt c l l.length) row=true:=by
  simp only [Co,Jc,not_or,gj] at h1
  exact h1.2
 have:=(kr h (Qe h2 hrr) l.length (Aj _) hb).row
 rw [O8] at this
 exact this
theorem ANy {c:List Col} {l:List Mov} {row:List Val}:∀k,(bkM c l row k).2≠0→(bkM c l row k).1=[]
 | 0,h=>absurd rfl h
 | k+1,h=>by
  rw [bkM] at h ⊢
  split
  ·rfl
  rename_i h1
  rw [if_neg h1] at h
  split at h
  ·exact AMd
  exact fw h
theorem ABy {c:List Col} (hc:OkCols c) {l:List Mov} {row:List Val} (h:OkMovs l) (hrr:∀v∈row, -9223372036854775808≤v.n∧v.n≤9223372036854775807):(Ca c l row).1.length≤1048576:=by
 by_cases hb:(Ca c l row).2=0
 ·rw [(ga h hrr hb).len]
  exact hc.len
 unfold Ca at hb ⊢
 split
 ·exact ru
 rename_i h1
 rw [if_neg h1] at hb
 rw [ANy _ hb]
 exact ru
theorem cb {c:List Col} {l:List Mov} {row:List Val} (h:OkMovs l) (hs:((Ct c l).2 != 0)=false) (h0:RowI c row):∀k,k≤l.length→(fwM c l row k).2=0→RowI (colsAt c l k) (fwM c l row k).1
 | 0,_,_=>h0
 | k+1,hk,he=>by
  obtain ⟨hmay,hst,_⟩:=H3 hs
  have h1:(fwM c l row k).2=0:=Hs fun hn=>by
   rw [ko hn (k+1) (by omega)] at he
   exact hn he
  obtain ⟨m,hm⟩:∃m,l[k]? = some m:=⟨l[k],Aa (by omega)⟩
  have hml:=B3 hm
  have e:=Uh hm h1
  rw [e,Fz hm]
  exact W6 (Lx hst hm) (Ke hmay m hml) (fun e he=>(h.each m hml).ahead.rng e he) (cb h hs h0 k (by omega) h1) (by rw [←e];exact he)
theorem ut {c:List Col} {l:List Mov} {row:List Val} (h:OkMovs l) (hrr:∀v∈row, -9223372036854775808≤v.n∧v.n≤9223372036854775807) (hb:(Cx c l row).2=0):RowI (colsAt c l l.length) (Cx c l row).1:=by
 unfold Cx at hb ⊢
 split at hb
 ·cases hb
 rename_i h1
 rw [if_neg h1]
 have h2:((Ct c l).2 != 0)=false∧F9 c row=true:=by
  simp only [Co,Jc,not_or,gj,Uq] at h1
  exact h1
 exact cb h h2.1 (Qe h2.2 hrr) l.length (Aj _) hb
theorem c8 (c:List Col) (hc:OkCols c) (hc2:c.length≤1000000) (l:List Mov) (h:OkMovs l) (row:List Val) (hrr:∀v∈row, -9223372036854775808≤v.n∧v.n≤9223372036854775807) (hrl:row.length≤1048576) (Hp:List AObj):AFun Tryz.prog 8 [An c,E6 l,Br row] Hp (.tup [Br (Rg c l row).1,A5 (Rg c l row).2]):=by
 refine Ah [.tmp 6,.tmp 7] [0,1,2] Tryz.func8 Tryz.ntmps8 (fun d=>?_)
 refine yr ?_;refine Z19 ?_;refine A9 Tryz.call7 (c7 c hc hc2 l h row hrr hrl _) ?_;refine AH7 ?_;refine Z8 ?_;refine A2 [0,1,2,8,9,19] ?_
 refine A3 (fun ht19=>?_) (fun ht19=>?_)
 ·have hm:Rg c l row=([],(Ca c l row).2):=if_pos ht19
  refine lw ?_;exact Z55
 have n1:¬((Ca c l row).2 != 0)=true:=by rw [ht19];simp
 have hB:=ga h hrr (by simpa using ht19:(Ca c l row).2=0)
 refine No ?_
 refine A9 Tryz.call15 (c15 c hc hc2 l h (Ca c l row).1 (bt hB.fine) (by rw [hB.len];exact hc.len) _) ?_
 refine Z63 ?_;refine A2 [2,8,9,10] ?_;refine m8 ?_;refine A2 [2,8,9,10,28] ?_
 refine A3 (fun ht28=>?_) (fun ht28=>?_)
 ·have hm:Rg c l row=([],(Cx c l (Ca c l row).1).2):=by unfold Rg;rw [if_neg n1,if_pos ht28]
  refine lw ?_;exact APa
 have n2:¬((Cx c l (Ca c l row).1).2 != 0)=true:=by rw [ht28];simp
 have hF:=ut h (bt hB.fine) (by simpa using ht28:(Cx c l (Ca c l row).1).2=0)
 refine Z1 ?_
 refine A9 Tryz.call26 (c26 (Cx c l (Ca c l row).1).1 row (by rw [hF.len];exact (Gr hc (fun m hm=>h.each m hm) l.length).len) _) ?_
 refine Z0 ?_;refine A2 [8,32] ?_
 refine A3 (fun ht32=>?_) (fun ht32=>?_)
 ·have hm:Rg c l row=([],14):=by unfold Rg;rw [if_neg n1,if_neg n2,if_pos ht32]
  refine Z2 ?_;refine ALd ?_;exact APa
 have hm:Rg c l row=((Ca c l row).1,0):=by unfold Rg;rw [if_neg n1,if_neg n2,if_neg (by rw [ht32];simp)]
 refine Z17 ?_;refine rf ?_;refine Dd ?_;exact A8 (B1 A7 A7) ⟨by rw [hm]<;>rfl,rfl⟩ (hlow:=by simpa using (Dc (n:=Hp.length) (k:=3) (o:=false) (l:=(Ca c l row).1)))

theorem c18 (n:Int) (Hp:List AObj):AFun Tryz.prog 18 [A5 n] Hp (Bi ⟨1,n,[]⟩):=by
 refine Ah [.cell 2 42] [0] Tryz.func18 Tryz.ntmps18 (fun d=>?_)
 refine Z67 ?_;refine ALu ?_;refine Z16 ?_;exact A8 (Ae (B8 jA jS)) ⟨rfl,rfl⟩

def aiS:Str:=[115,112,108,105,116,32,97,32,105,110,116,111,32,98,32,105,110,116,32,61,32,97,32,47,32,49,48,44,32,99,32,105,110,116,32,61,32,97,32,37,32,49,48,32,98,97,99,107,32,98,32,42,32,49,48,32,43,32,99,59]
def aiC:List Col:=[⟨[97],1⟩]
theorem AKe:(Xj aiS).2.1=0:=by kernel_rfl
theorem ASg:(Xj aiS).2.2=0:=by kernel_rfl
theorem AGr:Cx aiC (Xj aiS).1 [⟨1,42,[]⟩]=([⟨1,4,[]⟩,⟨1,2,[]⟩],0):=by kernel_rfl
theorem ANz:Rg aiC (Xj aiS).1 [⟨1,4,[]⟩,⟨1,12,[]⟩]=([],14):=by kernel_rfl
theorem ASh:OkCols aiC:=⟨by simp [aiC],fun y hy=>by rw [Bs.1 hy];simp⟩
theorem AL7:OkMovs (Xj aiS).1:=g9 (by kernel_rfl) (ANx (by kernel_rfl))
theorem c5 (Hp:List AObj):AFun Tryz.prog 5 [] Hp (B4 true):=by
 refine Ah [.tmp 0] [] Tryz.func5 Tryz.ntmps5 (fun d=>?_)
 refine Z2 ?_;refine A2 [] ?_;refine Ec ?_;refine j7 ?_;refine ry ?_;refine A4 ?_;refine A2 [1] ?_;refine Ec ?_;refine A9 Tryz.call17 (c17 aiS (by decide) (by kernel_rfl) (ASc (by kernel_rfl)) _) ?_;refine Z10 ?_;refine ALi ?_;refine A2 [1,2,3] ?_;refine Ec ?_
 rw [AKe,ASg]
 refine Z0 ?_;refine A9 Tryz.call18 (c18 42 _) ?_;refine ry ?_
 refine A9 Tryz.call15 (c15 aiC ASh (by decide) (Xj aiS).1 AL7 [⟨1,42,[]⟩] (fun v hv=>by rw [Bs.1 hv];decide) (by decide) _) ?_
 rw [AGr]
 refine Z63 ?_;refine A2 [1,2,3,4,5] ?_;refine Z1 ?_;refine A9 Tryz.call18 (c18 4 _) ?_;refine A9 Tryz.call18 (c18 12 _) ?_;refine ry ?_
 refine A9 Tryz.call8 (c8 aiC ASh (by decide) (Xj aiS).1 AL7 [⟨1,4,[]⟩,⟨1,12,[]⟩] (fun v hv=>by simp only [Bu,Fi,or_false] at hv;rcases hv with rfl|rfl<;>decide) (by decide) _) ?_
 rw [ANz]
 refine Z63 ?_;refine A2 [3,4,5,7] ?_;refine Cb [0,1,3,7,15,31,63,127,255,511,1023,2047,4095,8191,16383,32767,8191,131071,262143,524287,1048575,2097151,4194303,1048575,16777215,33554431,67108863,134217727,268435455,536870911,1073741823] 24 Ai (by kernel_rfl) ?_;refine Tq ?_;refine Z56 ?_;refine Z12 ?_;refine lv ?_;refine Z12 ?_;refine Ei ?_
 refine Ei (h:=Ac (0) (Bi ⟨1,4,[]⟩) (fun _=>rfl)) (hr:=?_)
 refine Ei ?_;refine V1 Tryz.call18 (fun hB=>c18 4 _) ?_
 refine Ei (h:=Oc Tt (Hn 1 4 1 4 [] [])) (hr:=?_)
 refine Z12 ?_;refine Ei ?_
 refine Ei (h:=Ac (1) (Bi ⟨1,2,[]⟩) (fun _=>rfl)) (hr:=?_)
 refine Ei ?_;refine V1 Tryz.call18 (fun hB=>c18 2 _) ?_;refine J0 ?_
 refine Bd (h:=Oc Tt (Hn 1 2 1 2 [] [])) (hr:=?_)
 refine Z44 ?_;refine Z0 ?_;refine A2 [0] ?_;refine Dd ?_;exact A8 (Ae A7) ⟨by rfl,rfl⟩

/-! ImageJoins: rows forth and back, move by move. -/
theorem W9 {over:List Col}:∀{l:List Expr} {w:List Col},Cs over l w=0→∀(j:Nat) (x:Expr) (y:Col),l[j]? = some x→w[j]? = some y→O1 x over y.kind=0
 | [],_,_,j,x,y,h,_=>by simp at h
 | _::_,[],_,j,x,y,_,h=>by simp at h
 | a::l,b::w,h,j,x,y,h1,h2=>by
  rw [Cs] at h
  by_cases h0:(O1 a over b.kind != 0)=true
  ·rw [if_pos h0] at h
   rw [h] at h0
   cases h0
  rw [if_neg h0] at h
  cases j with
  | zero =>
   have e1:a=x:=by simpa using h1
   have e2:b=y:=by simpa using h2
   rw [←e1,←e2]
   simpa using h0
  | succ j=>exact W9 h j x y (by simpa using h1) (by simpa using h2)
theorem xj {x:Expr} {c:List Col} {k:Int} {row:List Val} (h:O1 x c k=0) (hr:F9 c row=true) (he:(En x c row).2=0):(En x c row).1.kind=0∨(En x c row).1.kind=k:=by
 unfold O1 at h
 by_cases h1:((Eu x c).2 != 0)=true
 ·rw [if_pos h1] at h
  rw [h] at h1
  cases h1
 rw [if_neg h1] at h
 have h1:(Eu x c).2=0:=by simpa using h1
 by_cases h2:(!Ww x c k)=true
 ·rw [if_pos h2] at h
  cases h
 have h2:Ww x c k=true:=by simpa using h2
 unfold Ww at h2
 simp only [As,Co,beq_iff_eq] at h2
 have:=(AB5 h1 hr).kind he
 rcases h2.2 with h3|h3<;>omega
theorem cd {c:List Col} {m:Mov} (h:(Bc c m).2=0):Cs c m.ahead (Ba c m)=0∧Cs (Bc c m).1 m.back (Gd c m)=0:=by
 by_cases h1:((D5 c m.take (Ba c m)).2 != 0)=true
 ·rw [kb h1] at h
  rw [show (D5 c m.take (Ba c m)).2=0 from h] at h1
  cases h1
 have h1:((D5 c m.take (Ba c m)).2 != 0)=false:=by simpa using h1
 by_cases h2:(Cs c m.ahead (Ba c m) != 0)=true
 ·rw [kc h1 h2] at h
  rw [show Cs c m.ahead (Ba c m)=0 from h] at h2
  cases h2
 have h2:(Cs c m.ahead (Ba c m) != 0)=false:=by simpa using h2
 by_cases h3:(Cs (D5 c m.take (Ba c m)).1 m.back (Gd c m) != 0)=true
 ·rw [ke h1 h2 h3] at h
  rw [show Cs (D5 c m.take (Ba c m)).1 m.back (Gd c m)=0 from h] at h3
  cases h3
 have h3:(Cs (D5 c m.take (Ba c m)).1 m.back (Gd c m) != 0)=false:=by simpa using h3
 rw [kg h1 h2 h3]
 exact ⟨by simpa using h2,by simpa using h3⟩
theorem T6 {c:List Col} {row:List Val}:∀{l:List Expr},(Bf c row l).2=0→∀(j:Nat) (x:Expr),l[j]? = some x→(En x c row).2=0∧(Bf c row l).1[j]? = some (En x c row).1
 | [],_,j,x,h=>by simp at h
 | a::r,h,j,x,hx=>by
  rw [Bf] at h ⊢
  by_cases h1:((En a c row).2 != 0)=true
  ·rw [if_pos h1] at h
   rw [show (En a c row).2=0 from h] at h1
   cases h1
  rw [if_neg h1] at h ⊢
  by_cases h2:((Bf c row r).2 != 0)=true
  ·rw [if_pos h2] at h
   rw [show (Bf c row r).2=0 from h] at h2
   cases h2
  rw [if_neg h2]
  cases j with
  | zero =>
   have e1:a=x:=by simpa using hx
   rw [←e1]
   exact ⟨by simpa using h1,rfl⟩
  | succ j=>exact T6 (l:=r) (by simpa using h2) j x (by simpa using hx)
theorem gb {take:List Str}:∀{c:List Col} {row:List Val},row.length=c.length→∀(i:Nat) (v:Val) (y:Col),(Gj take c row)[i]? = some v→(Ch c take)[i]? = some y→∃j:Nat,row[j]? = some v∧c[j]? = some y
 | [],[],_,i,v,y,h,_=>by simp [Gj] at h
 | a::c,b::row,hl,i,v,y,h1,h2=>by
  have hl2:row.length=c.length:=by simpa using hl
  unfold Gj at h1
  unfold Ch at h2
  rw [List.zip_cons_cons,Pe] at h1
  rw [Pe] at h2
  have ih:=gb (take:=take) hl2
  by_cases ht:(!take.contains a.name)=true
  ·rw [if_pos ht] at h1 h2
   cases i with
   | zero=>exact ⟨0,by simpa using h1,by simpa using h2⟩
   | succ i =>
    obtain ⟨j,e1,e2⟩:=ih i v y (by simpa [Gj] using h1) (by simpa [Ch] using h2)
    exact ⟨j+1,by simpa using e1,by simpa using e2⟩
  rw [if_neg ht] at h1 h2
  obtain ⟨j,e1,e2⟩:=ih i v y (by simpa [Gj] using h1) (by simpa [Ch] using h2)
  exact ⟨j+1,by simpa using e1,by simpa using e2⟩
 | [],_::_,hl,_,_,_,_,_=>by simp at hl
 | _::_,[],hl,_,_,_,_,_=>by simp at hl
theorem Wz {c:List Col} (h:D8 c=true):H5 c=true:=by
 unfold D8 at h
 simp only [As] at h
 exact h.2
/-- What comes forth is a row over the columns behind. -/
theorem uu {c:List Col} {m:Mov} {row:List Val} (ht:(Bc c m).2=0) (hm:Fo m=true) (hg:∀e∈m.ahead,Et L5 e=true) (h:RowI c row) (hp:F9 c row=true) (hf:(E1 c m row).2=0):F9 (Bc c m).1 (E1 c m row).1=true:=by
 have hR:=W6 ht hm hg h hf
 obtain ⟨e1,hrc,hrt⟩:=O3 ht
 obtain ⟨p1,p2,p3⟩:=row_iff.1 hp
 refine row_iff.2 ⟨Wz hrt,hR.len,fun i v y hv hy=>?_⟩
 refine ⟨(hR.fine v (B3 hv)).plain,?_⟩
 have hk:(Bf c row m.ahead).2=0:=by
  unfold E1 at hf
  by_cases h1:((Bf c row m.ahead).2 != 0)=true
  ·rw [if_pos h1] at hf
   exact hf
  simpa using h1
 have ev:E1 c m row=(Gj m.take c row++(Bf c row m.ahead).1,0):=if_neg (by rw [hk];simp)
 rw [ev] at hv
 rw [e1] at hy
 have hlen:=Uf (take:=m.take) h.len
 rcases Be i (Gj m.take c row).length with hi|hi
 ·rw [Dh hi] at hv
  rw [Dh (by omega)] at hy
  obtain ⟨j,j1,j2⟩:=gb h.len i v y hv hy
  exact (p3 j v y j1 j2).2
 rw [Dn hi] at hv
 rw [Dn (by omega),←hlen] at hy
 generalize i-(Gj m.take c row).length=j at hv hy
 have hj:j<m.ahead.length:=by
  have:=(Ad.1 hv).1
  rw [Ow hk] at this
  exact this
 obtain ⟨a1,a2⟩:=T6 hk j m.ahead[j] (Aa hj)
 rw [a2] at hv
 injection hv with hv
 rw [←hv]
 exact xj (W9 (cd ht).1 j _ y (Aa hj) hy) hp a1
theorem AKf {v:Str} {l:List Str} {j:Nat} (h:H6 v l=(j:Int)):l[j]? = some v:=by
 unfold H6 at h
 cases hf:l.findIdx? (·==v) with
 | none=>rw [hf] at h;exact absurd (show (-1:Int)=(j:Int) from h) (by omega)
 | some i =>
  rw [hf] at h
  have h:(i:Int)=(j:Int):=h
  have e:i=j:=by omega
  obtain ⟨a,b,_⟩:=Jy.1 hf
  rw [←e,Aa a]
  have:l[i]=v:=by simpa using b
  rw [this]
theorem xk {c:List Col} (h:D8 c=true):(c.map (·.name)).Nodup:=(n6 (by rw [Nw];exact h)).2.2
/-- What comes back is a row over the columns ahead. -/
theorem ABz {c:List Col} {m:Mov} {row:List Val} (ht:(Bc c m).2=0) (hm:Fo m=true) (hg:∀e∈m.back,Et L5 e=true) (h:RowI (Bc c m).1 row) (hp:F9 (Bc c m).1 row=true) (hf:(Cn c (Bc c m).1 m row).2=0):F9 c (Cn c (Bc c m).1 m row).1=true:=by
 have hR:=ph (a:=c) hg h hf
 obtain ⟨e1,hrc,hrt⟩:=O3 ht
 obtain ⟨p1,p2,p3⟩:=row_iff.1 hp
 refine row_iff.2 ⟨Wz hrc,hR.len,fun i v y hv hy=>?_⟩
 refine ⟨(hR.fine v (B3 hv)).plain,?_⟩
 have hk:(Bf (Bc c m).1 row m.back).2=0:=by
  unfold Cn at hf
  by_cases h1:((Bf (Bc c m).1 row m.back).2 != 0)=true
  ·rw [if_pos h1] at hf
   exact hf
  simpa using h1
 have ev:Cn c (Bc c m).1 m row=(c.map (Mx m.take (Bf (Bc c m).1 row m.back).1 row (Bc c m).1),0):=if_neg (by rw [hk];simp)
 rw [ev] at hv
 simp only [Ce,hy,Option.map_some,O9] at hv
 rw [←hv]
 unfold Mx
 have hfy:=Sn (xk hrc) hy
 by_cases h0:0≤H6 y.name m.take
 ·rw [if_pos h0]
  obtain ⟨j,hj,hjl⟩:=Y2 h0
  have hb:=(Ge (M5 hm)).2
  have hjb:j<m.back.length:=by omega
  obtain ⟨a1,a2⟩:=T6 hk j m.back[j] (Aa hjb)
  have hty:(Gd c m)[j]? = some y:=by
   unfold Gd
   rw [Ce,AKf hj]
   simp only [Option.map_some,O9]
   rw [hfy,Int.toNat_natCast,D4,hy]
   rfl
  have:=xj (W9 (cd ht).2 j _ y (Aa hjb) hty) hp a1
  rw [hj,Int.toNat_natCast,D4,a2]
  exact this
 rw [if_neg h0]
 have hmem:y∈(Bc c m).1:=by
  rw [e1]
  refine Xk _ ?_
  unfold Ch
  rw [Qk]
  refine ⟨B3 hy,?_⟩
  rw [←jn,decide_eq_false h0]
  rfl
 obtain ⟨j,hj⟩:=Cf hmem
 rw [Sn (xk hrt) hj,Int.toNat_natCast,D4]
 have hjr:j<row.length:=by rw [h.len];exact (Ad.1 hj).1
 rw [Aa hjr]
 exact (p3 j row[j] y (Aa hjr) hj).2
/-! Columns of parts of moves. -/
theorem O5 {c:List Col} {l:List Mov} {k:Nat}:∀j,colsAt (colsAt c l k) (l.drop k) j=colsAt c l (k+j)
 | 0=>rfl
 | j+1=>by
  rw [colsAt,O5 j,F4,←Ll,colsAt]
theorem AGs {c:List Col} {l:List Mov} (hm:Mr c l=true) (h:∀(j:Nat) (m:Mov),l[j]? = some m→(Bc (colsAt c l j) m).2=0):((Ct c l).2 != 0)=false:=by
 have key:∀k,k≤l.length→NS c l k:=by
  intro k
  induction k with
  | zero=>exact fun _=>AJw
  | succ k ih =>
   intro hk
   have hg:=Aa (l:=l) (i:=k) (by omega)
   exact Y0 hg (ih (by omega)) (h k _ hg)
 rw [W5 hm (kj (key l.length (Aj _)))]
 rfl
theorem AKg {c d:List Col} {l l':List Mov} (h:Mr c l=true) (hd:D8 d=true) (hl:l'.length≤l.length) (hs:∀m∈l',m∈l):Mr d l'=true:=by
 unfold Mr Pa at h ⊢
 simp only [As,decide_eq_true_eq,B5] at h ⊢
 exact ⟨hd,by omega,fun m hm=>h.2.2 m (hs m hm)⟩
theorem uv {c:List Col} {l:List Mov} {k:Nat} (h:((Ct c l).2 != 0)=false):((Ct (colsAt c l k) (l.drop k)).2 != 0)=false:=by
 obtain ⟨hmay,hst,_⟩:=H3 h
 have hc:D8 c=true:=by unfold Mr at hmay;simp only [As] at hmay;exact hmay.1
 refine AGs (AKg hmay (Ot hc hst k) (by rw [Fh];omega) (fun m hm=>Ql hm)) fun j m hj=>?_
 rw [O5]
 rw [F4] at hj
 exact Lx hst hj
theorem xl {c:List Col} {l:List Mov} {x:List Val} {k:Nat} (hk:k≤l.length):∀j,j≤l.length-k→bkM (colsAt c l k) (l.drop k) x j=bkM c l x j
 | 0,_=>rfl
 | j+1,h=>by
  rw [bkM,bkM,xl hk j (by omega),Fh,F4,O5,O5,show k+(l.length-k-1-j)=l.length-1-j by omega,show k+(l.length-k-1-j+1)=l.length-1-j+1 by omega]
/-- Rows on the way forth are rows. -/
theorem kt {c:List Col} {l:List Mov} {row:List Val} (h:OkMovs l) (hs:((Ct c l).2 != 0)=false) (h0:RowI c row) (hp:F9 c row=true):∀k,k≤l.length→(fwM c l row k).2=0→F9 (colsAt c l k) (fwM c l row k).1=true
 | 0,_,_=>hp
 | k+1,hk,he=>by
  obtain ⟨hmay,hst,_⟩:=H3 hs
  have h1:(fwM c l row k).2=0:=Hs fun hn=>by
   rw [ko hn (k+1) (by omega)] at he
   exact hn he
  obtain ⟨m,hm⟩:∃m,l[k]? = some m:=⟨l[k],Aa (by omega)⟩
  have hml:=B3 hm
  have e:=Uh hm h1
  rw [e,Fz hm]
  exact uu (Lx hst hm) (Ke hmay m hml) (fun e he=>(h.each m hml).ahead.rng e he) (cb h hs h0 k (by omega) h1) (kt h hs h0 hp k (by omega) h1) (by rw [←e];exact he)
/-- And on the way back. -/
theorem xm {c:List Col} {l:List Mov} {x:List Val} (h:OkMovs l) (hs:((Ct c l).2 != 0)=false) (h0:RowI (colsAt c l l.length) x) (hp:F9 (colsAt c l l.length) x=true):∀k,k≤l.length→(bkM c l x k).2=0→F9 (colsAt c l (l.length-k)) (bkM c l x k).1=true
 | 0,_,_=>hp
 | k+1,hk,he=>by
  obtain ⟨hmay,hst,_⟩:=H3 hs
  have h1:(bkM c l x k).2=0:=Hs fun hn=>by
   rw [kp hn (k+1) (by omega)] at he
   exact hn he
  obtain ⟨m,hm⟩:∃m,l[l.length-1-k]? = some m:=⟨l[l.length-1-k],Aa (by omega)⟩
  have hml:=B3 hm
  have e:=Ui hm h1
  have hR:=(kr h h0 k (by omega) h1).row
  have ih:=xm h hs h0 hp k (by omega) h1
  rw [show l.length-k=l.length-1-k+1 by omega,Fz hm] at hR ih
  rw [e] at he ⊢
  rw [Fz hm] at he ⊢
  rw [show l.length-(k+1)=l.length-1-k by omega]
  exact ABz (Lx hst hm) (Ke hmay m hml) (fun e he=>(h.each m hml).back.rng e he) hR ih he
theorem pu {c:List Col} {l:List Mov} {row:List Val} (hs:((Ct c l).2 != 0)=false) (hp:F9 c row=true):Cx c l row=fwM c l row l.length:=if_neg (by rw [hs,hp];simp)
theorem AKh {c:List Col} {l:List Mov} {row:List Val} (hs:((Ct c l).2 != 0)=false) (hp:F9 (colsAt c l l.length) row=true):Ca c l row=bkM c l row l.length:=if_neg (by rw [hs,hp];simp)
theorem AO0 {l l':List Mov} (h:OkMovs l) (hl:l'.length≤l.length) (hs:∀m∈l',m∈l):OkMovs l':=⟨Ir hl h.len,fun m hm=>h.each m (hs m hm)⟩
theorem pv {c:List Col} {l:List Mov} {row:List Val} (h:OkMovs l) (hs:((Ct c l).2 != 0)=false) (h0:RowI c row) (hp:F9 c row=true) (hf:(Cx c l row).2=0):RowI (colsAt c l l.length) (Cx c l row).1∧F9 (colsAt c l l.length) (Cx c l row).1=true:=by
 rw [pu hs hp] at hf ⊢
 exact ⟨cb h hs h0 _ (Aj _) hf,kt h hs h0 hp _ (Aj _) hf⟩
end Go.SX.Nb
namespace Go.SX
variable [GI:GlobInv]
open Classical
section
variable {P:Program} {d:Nat} {st:St} {dst:Option Tmp} {ty:TypeId} {pos:String} {aft:Array Edge} {gd:Option (Nat×Bool)}
variable {sz:Nat} {fr:Nat→AV} {up own own':List AObj} {dfs:List Nat} {rnd:Option Nat} {Q:St→Prop} {ops:Array Oper} {rest:List Oper} {s:Nat}
variable {l0:List Oper} {E:List Oper→(Nat→AV)→Prop} {kd:Nat}
end
end Go.SX
namespace Go.SX
variable [GI:GlobInv]
open Classical
section
variable {P:Program} {d:Nat} {st:St} {ty:TypeId} {pos:String} {aft:Array Edge} {gd:Option (Nat×Bool)} {ats:Array TypeId}
variable {sz:Nat} {fr:Nat→AV} {up own own':List AObj} {dfs:List Nat} {rnd:Option Nat} {Q:St→Prop} {ops:Array Oper} {rest:List Oper} {s:Nat}
end
end Go.SX
