/- Texts on the way to this: FuseNames answers true for whatever it is handed: over right steps there is a tree for each column, of its kind or of none, or the error says that a tree grew too large. (part 10) -/
import Derived.Test.YtepoiomaocjhfaaGreatDoorFuseNamesCardSaidPart9
set_option linter.all false
namespace Go.SX.Nb
open Go Go.SX Go.Proofs
variable [ErrAt]
set_option maxRecDepth 4000
abbrev pmO (L:List Tok) (i:Nat):AObj:=.cells 96 [ar L,A2 (i:Int)]
abbrev mvC (m:Mov):List AV:=[A2 m.kind,.slice true 1 (m.take.map A6),.slice true 2 (m.give.map Ak),.slice true 6 (m.ahead.map A4),.slice true 6 (m.back.map A4)]
abbrev mvO (m:Mov):AObj:=.cells 64 (mvC m)
abbrev Kq:AV:=.v (.tuple #[])
theorem Cd {n:Nat} {L:List Tok} {i:Nat}:ObjLow n (pmO L i):=by
 show ∀y∈[AV.slice false 3 (L.map H5),A2 (i:Int)],Low n y
 intro y hy
 simp only [List.mem_cons,List.not_mem_nil,or_false] at hy
 rcases hy with rfl|rfl
 ·simp [or_imp,forall_and]
 simp
/-- A contract of the parser, of sources that are right: it comes to what the model comes to. -/
structure CP (g:FuncId) (args:List AV) (H:List AObj) {α:Type} (X:PR α) (Q:α→Nat→AV→List AObj→Prop) (R:List AObj→Prop):Prop where
 run:(∃c j,X=.ok c j)→ACall Tryz.prog g args H (fun r H'=>∃c j,X=.ok c j∧Q c j r H')
theorem CP.ok {g:FuncId} {args:List AV} {H:List AObj} {α:Type} {X:PR α} {Q:α→Nat→AV→List AObj→Prop} {R:List AObj→Prop} {c:α} {j:Nat} (h:CP g args H X Q R) (hX:X=.ok c j):ACall Tryz.prog g args H (fun r H'=>Q c j r H'):=
 (h.run ⟨c,j,hX⟩).mono (fun r H' ⟨c',j',e,hq⟩=>by rw [hX] at e;injection e with e1 e2;subst e1;subst e2;exact hq)
theorem Bk {α:Type} {X:PR α} {e a:Int} (h:∃c j,X=.ok c j) (hX:X=.bad e a):False:=by
 obtain ⟨c,j,h⟩:=h
 rw [hX] at h
 cases h
def PR.isOk {α:Type}:PR α→Bool
 | .ok _ _=>true
 | .bad _ _=>false
theorem AA7 {α:Type} {X:PR α} (h:X.isOk=true):∃c j,X=.ok c j:=by
 cases X with
 | ok c j=>exact ⟨c,j,rfl⟩
 | bad e a=>cases h
/-- The parser's object alone has turned. -/
def W1 (L:List Tok) (o:Nat) (Hp H':List AObj):Prop:=∃j,H'=Hp.set o (pmO L j)
theorem c88 (L:List Tok) (i o:Nat) (Hp:List AObj) (ho:Hp[o]? = some (pmO L i)) (hi:i<L.length):AFun Tryz.prog 88 [.ptr o 0] Hp (H5 (A7 L i)):=by
 refine ACall.body [.cell 2 125] [0] Tryz.func88 Tryz.ntmps88 (fun d=>?_)
 refine xw ?_;refine Z53 ?_
 refine D.go (h:=Q.loadUp ho) (hr:=?_)
 refine Z53 ?_
 refine D.go (h:=Q.loadUp ho) (hr:=?_)
 refine D.tail ?_
 refine R.go (h:=Q.indexAddr (i) (H5 (A7 L i)) (fun _=>Pn hi)) (hr:=?_)
 refine R.go ?_;exact o6

theorem AA8 (L:List Tok) (s:Str) (i o:Nat) (Hp:List AObj) (ho:Hp[o]? = some (pmO L i)) (hi:i<L.length):AFun Tryz.prog 162 [.ptr o 0,A6 s] Hp (Al (isP L s i)):=by
 refine ACall.body [.tmp 4] [0,1] Tryz.func162 Tryz.ntmps162 (fun d=>?_)
 refine Z62 ?_;refine u7 ?_;refine Z20 ?_;refine R.fin [1,5] ?_;refine Z1 ?_;refine Z83 ?_;refine Z56 ?_;exact jn

/-! Where the parser of moves comes to. -/
def PR.In {α:Type} (x:PR α) (i n:Nat):Prop:=∀r j,x=.ok r j→i<j∧j<n
theorem PR.bind_ok {α β:Type} {x:PR α} {f:α→Nat→PR β} {r:β} {j:Nat} (h:x.bind f=.ok r j):∃a k,x=.ok a k∧f a k=.ok r j:=by
 cases x with
 | ok a k=>exact ⟨a,k,rfl,h⟩
 | bad e a=>cases h
theorem ru {L:List Tok} {s:Str} {i:Nat} (h:isP L s i=true):(A7 L i).kind≠0:=by
 unfold isP at h
 simp only [Bool.and_eq_true,Bool.or_eq_true,beq_iff_eq] at h
 rcases h.1 with h|h<;>rw [h]<;>decide
theorem E1 {L:List Tok} (hl:TokEnd L) {s:Str} {i:Nat} (hi:i<L.length):(Bl L s i).In i L.length:=by
 intro r j h
 unfold Bl at h
 split at h
 ·rename_i h1
  injection h with _ h
  subst h
  exact ⟨Nat.lt_succ_self i,hl.step hi (ru h1)⟩
 cases h
theorem Fi {L:List Tok} (hl:TokEnd L) {i:Nat} (hi:i<L.length):(Ep L i).In i L.length:=by
 intro r j h
 unfold Ep at h
 split at h
 ·cases h
 rename_i h1
 injection h with _ h
 subst h
 have hk:(A7 L i).kind=1:=by simpa using h1
 exact yu
theorem rx {L:List Tok} (hl:TokEnd L) {nm:Str} {i:Nat} (hi:i<L.length):(ca L nm i).In i L.length:=by
 intro r j h
 unfold ca at h
 split at h
 ·cases h
 rename_i h1
 injection h with _ h
 subst h
 have hk:(A7 L i).kind=2:=by simp only [Bool.not_eq_true,Bool.or_eq_false_iff,bne_eq_false_iff_eq] at h1;exact h1.1
 exact yu
theorem Sx {L:List Tok} (hl:TokEnd L) {i:Nat} (hi:i<L.length):(Gr L i).In i L.length:=by
 intro r j h
 obtain ⟨a,k,h1,h2⟩:=PR.bind_ok h
 obtain ⟨a1,a2⟩:=Fi hl hi _ _ h1
 obtain ⟨b1,b2⟩:=rx hl a2 _ _ h2
 exact ⟨by omega,b2⟩
theorem M5 {L:List Tok} (hl:TokEnd L) (hll:L.length≤500000) {i:Nat} (hi:i<L.length) {x:Expr} {k:Nat} (h:Is L i=.ok x k):i≤k∧k<L.length:=by
 unfold Is at h
 split at h
 ·cases h
 rename_i h0
 injection h with _ h
 subst h
 have h0:(atM L i).2.2.1=0:=by simpa using h0
 have hq:=Q7 hl (by omega:L.length≤1048576) hi
 unfold atM at h0 ⊢
 split at h0
 ·rename_i h1
  have:(atS L i (atR L i)).code=0:=h0
  rw [this] at h1
  cases h1
 rename_i h1
 rw [if_neg h1]
 have e:(atS L i (atR L i)).i=(atR L i).2.i:=by
  unfold atS
  repeat' split
  all_goals first|rfl|exact failM_i.1
 show i≤((atS L i (atR L i)).i:Int).toNat∧((atS L i (atR L i)).i:Int).toNat<_
 rw [Int.toNat_natCast,e]
 exact ⟨hq.le,hq.lt⟩
/-- A move has no more parts than so many. -/
structure MvLe (m:Mov) (n:Nat):Prop where
 take:m.take.length≤n
 give:m.give.length≤n
 ahead:m.ahead.length≤n
 back:m.back.length≤n
theorem MvLe.mono {m:Mov} {i j:Nat} (h:MvLe m i) (hij:i≤j):MvLe m j:=⟨Nat.le_trans h.take hij,Nat.le_trans h.give hij,Nat.le_trans h.ahead hij,Nat.le_trans h.back hij⟩
/-- What a part of a move comes to. -/
def w6 (x:PR Mov) (i n:Nat):Prop:=∀m j,x=.ok m j→i≤j∧j<n∧MvLe m (2*j)
/-- A part of a move that goes on from i. -/
def Ra (L:List Tok) (one:Mov→Nat→PR Mov):Prop:=∀m i,MvLe m (2*i-1)→0<i→i<L.length→w6 (one m i) i L.length
theorem Hq {L:List Tok} (hl:TokEnd L) (hll:L.length≤500000):Ra L (Cz L):=by
 intro m i hm _ hi m' k h
 obtain ⟨c,j,h1,h2⟩:=PR.bind_ok h
 obtain ⟨u,j2,h3,h4⟩:=PR.bind_ok h2
 obtain ⟨x,j3,h5,h6⟩:=PR.bind_ok h4
 injection h6 with h6 h7
 subst h6;subst h7
 have a1:=Sx hl hi _ _ h1
 have a2:=E1 hl a1.2 _ _ h3
 have a3:=M5 hl hll a2.2 h5
 obtain ⟨b1,b2,b3,b4⟩:=hm
 exact ⟨by omega,a3.2,by show m.take.length≤_;omega,by show (m.give++[c]).length≤_;rw [List.length_append,List.length_singleton];omega,by show (m.ahead++[x]).length≤_;rw [List.length_append,List.length_singleton];omega,by show m.back.length≤_;omega⟩
theorem X4 {L:List Tok} (hl:TokEnd L) (hll:L.length≤500000):Ra L (Nv L):=by
 intro m i hm h0 hi m' k h
 obtain ⟨x,j,h1,h2⟩:=PR.bind_ok h
 injection h2 with h6 h7
 subst h6;subst h7
 have a3:=M5 hl hll hi h1
 obtain ⟨b1,b2,b3,b4⟩:=hm
 exact ⟨by omega,a3.2,by show m.take.length≤_;omega,by show m.give.length≤_;omega,by show m.ahead.length≤_;omega,by show (m.back++[x]).length≤_;rw [List.length_append,List.length_singleton];omega⟩
theorem Qr {L:List Tok} (hl:TokEnd L):Ra L (M4 L):=by
 intro m i hm _ hi m' k h
 obtain ⟨s,j,h1,h2⟩:=PR.bind_ok h
 injection h2 with h6 h7
 subst h6;subst h7
 have a1:=Fi hl hi _ _ h1
 obtain ⟨b1,b2,b3,b4⟩:=hm
 exact ⟨by omega,a1.2,by show (m.take++[s]).length≤_;rw [List.length_append,List.length_singleton];omega,by show m.give.length≤_;omega,by show m.ahead.length≤_;omega,by show m.back.length≤_;omega⟩
theorem Im {L:List Tok} {s:Str} {i:Nat} {u:Unit} {j:Nat} (h:Bl L s i=.ok u j):j=i+1:=by
 unfold Bl at h
 split at h
 ·injection h with _ h;exact h.symm
 cases h
theorem X5 {L:List Tok} (hl:TokEnd L) {n:Int} {one:Mov→Nat→PR Mov} (hP:Ra L one):∀(f k:Nat) (m:Mov) (i:Nat),MvLe m (2*i)→0<i→i<L.length→w6 (M3 L n one f k m i) i L.length
 | 0,k,m,i,hm,h0,hi=>fun m' j h=>by
  injection h with h1 h2
  subst h1;subst h2
  exact ⟨Nat.le_refl _,hi,hm⟩
 | f+1,k,m,i,hm,h0,hi=>fun m' j h=>by
  rw [M3] at h
  split at h
  ·obtain ⟨u,j1,h1,h2⟩:=PR.bind_ok h
   obtain ⟨m1,j2,h3,h4⟩:=PR.bind_ok h2
   have e:=Im h1
   have a1:=E1 hl hi _ _ h1
   obtain ⟨b1,b2,b3⟩:=hP m j1 (hm.mono (by omega)) (by omega) a1.2 _ _ h3
   obtain ⟨c1,c2,c3⟩:=X5 hl hP f (k+1) m1 j2 b3 (by omega) b2 _ _ h4
   exact Y5
  injection h with h1 h2
  subst h1;subst h2
  exact ⟨Nat.le_refl _,hi,hm⟩
theorem M6 {L:List Tok} (hl:TokEnd L) {n:Int} {one:Mov→Nat→PR Mov} (hP:Ra L one):Ra L (Fg L n one):=by
 intro m i hm h0 hi m' k h
 obtain ⟨m1,j,h1,h2⟩:=PR.bind_ok h
 obtain ⟨b1,b2,b3⟩:=hP m i hm h0 hi _ _ h1
 obtain ⟨c1,c2,c3⟩:=X5 hl hP _ _ m1 j b3 (by omega) b2 _ _ h2
 exact Y5
theorem Oi {L:List Tok} (hl:TokEnd L) (hll:L.length≤500000) {m:Mov} {i:Nat} (hm:MvLe m (2*i)) (hi:i<L.length):w6 (Dt L m i) i L.length:=by
 intro m' k h
 obtain ⟨u,j,h1,h2⟩:=PR.bind_ok h
 have e:=Im h1
 have a1:=E1 hl hi _ _ h1
 obtain ⟨c1,c2,c3⟩:=M6 hl (X4 hl hll) m j (hm.mono (by omega)) (by omega) a1.2 _ _ h2
 exact Y5
theorem gj {L:List Tok} (hl:TokEnd L):Ra L (Gs L):=by
 intro m i hm h0 hi m' k h
 obtain ⟨s,j,h1,h2⟩:=PR.bind_ok h
 obtain ⟨u,j2,h3,h4⟩:=PR.bind_ok h2
 obtain ⟨t,j3,h5,h6⟩:=PR.bind_ok h4
 injection h6 with h6 h7
 subst h6;subst h7
 have a1:=Fi hl hi _ _ h1
 have a2:=E1 hl a1.2 _ _ h3
 have a3:=Fi hl a2.2 _ _ h5
 exact ⟨by omega,a3.2,by show 1≤_;omega,by show 1≤_;omega,by show 1≤_;omega,by show 1≤_;omega⟩
theorem MvLe.takeS {m:Mov} {n:Nat} (h:MvLe m n) {s:Str} (h1:1≤n):MvLe (takeS m s) n:=⟨h1,h.give,h.ahead,h.back⟩
theorem cf {L:List Tok} (hl:TokEnd L) (hll:L.length≤500000):Ra L (Fh L):=by
 intro m i hm h0 hi m' k h
 unfold Fh at h
 split at h
 ·exact Hq hl hll m i hm h0 hi _ _ h
 split at h
 ·obtain ⟨s,j,h1,h2⟩:=PR.bind_ok h
  have a1:=Fi hl hi _ _ h1
  obtain ⟨c1,c2,c3⟩:=Oi hl hll ((hm.mono (by omega:2*i-1≤2*j)).takeS (by omega)) a1.2 _ _ h2
  exact Y5
 split at h
 ·exact gj hl m i hm h0 hi _ _ h
 split at h
 ·obtain ⟨s,j,h1,h2⟩:=PR.bind_ok h
  obtain ⟨u,j2,h3,h4⟩:=PR.bind_ok h2
  obtain ⟨m1,j3,h5,h6⟩:=PR.bind_ok h4
  have a1:=Fi hl hi _ _ h1
  have a2:=E1 hl a1.2 _ _ h3
  obtain ⟨b1,b2,b3⟩:=M6 hl (Hq hl hll) (takeS m s) j2 ((hm.mono (by omega:2*i-1≤2*j2-1)).takeS (by omega)) (by omega) a2.2 _ _ h5
  obtain ⟨c1,c2,c3⟩:=Oi hl hll b3 b2 _ _ h6
  exact Y5
 split at h
 ·obtain ⟨m1,j,h1,h2⟩:=PR.bind_ok h
  obtain ⟨u,j2,h3,h4⟩:=PR.bind_ok h2
  obtain ⟨m2,j3,h5,h6⟩:=PR.bind_ok h4
  obtain ⟨b1,b2,b3⟩:=M6 hl (Qr hl) m i hm h0 hi _ _ h1
  have e:=Im h3
  have a2:=E1 hl b2 _ _ h3
  obtain ⟨d1,d2,d3⟩:=Hq hl hll m1 j2 (b3.mono (by omega)) (by omega) a2.2 _ _ h5
  obtain ⟨c1,c2,c3⟩:=Oi hl hll d3 d2 _ _ h6
  exact Y5
 split at h
 ·obtain ⟨m1,j,h1,h2⟩:=PR.bind_ok h
  obtain ⟨d1,d2,d3⟩:=Hq hl hll m i hm h0 hi _ _ h1
  obtain ⟨c1,c2,c3⟩:=Oi hl hll (d3.takeS (by omega)) d2 _ _ h2
  exact Y5
 injection h with h1 h2
 subst h1;subst h2
 exact ⟨Nat.le_refl _,hi,hm.mono (by omega)⟩
theorem aa (L:List Tok) (s:Str) (i o:Nat) (Hp:List AObj) (ho:Hp[o]? = some (pmO L i)) (hi:i<L.length) (hll:L.length≤500000):CP 123 [.ptr o 0,A6 s] Hp (Bl L s i) (fun _ j r H'=>r=Kq∧H'=Hp.set o (pmO L j)) (W1 L o Hp):=by
 refine ⟨fun hX=>?_⟩
 refine ACall.body [] [0,1] Tryz.func123 Tryz.ntmps123 (fun d=>?_)
 refine Z8 ?_;refine R.call Tryz.call162 (AA8 L s i o _ (A5 ho) hi) ?_;refine R.go ?_;refine R.fin [0,7] ?_
 refine W.cond (fun ht7=>?_) (fun ht7=>?_)
 ·have hq:isP L s i=false:=by simpa using ht7
  have e:Bl L s i=.bad 8 (A7 L i).at_:=if_neg (by rw [hq];simp)
  exact jy
 have hq:isP L s i=true:=by simpa using ht7
 have e:Bl L s i=.ok () (i+1):=if_pos hq
 refine Z5 ?_;refine Z29 ?_
 refine R.go (h:=Q.loadUp ho) (hr:=?_)
 refine Z23 ?_
 refine R.storeUp jS ho ?_ ?_
 ·simp
 refine R.fin [] ?_;exact K.finN .nores (hp:=⟨(),i+1,e,rfl,rfl⟩)

theorem gk (L:List Tok) (i o:Nat) (Hp:List AObj) (ho:Hp[o]? = some (pmO L i)) (hi:i<L.length) (hll:L.length≤500000):CP 156 [.ptr o 0] Hp (Ep L i) (fun s j r H'=>r=A6 s∧H'=Hp.set o (pmO L j)) (W1 L o Hp):=by
 refine ⟨fun hX=>?_⟩
 refine ACall.body [.tmp 2] [0] Tryz.func156 Tryz.ntmps156 (fun d=>?_)
 refine Z40 ?_;refine u7 ?_;refine Z20 ?_;refine It ?_;refine Z35 ?_;refine R.fin [0,3,8] ?_
 refine W.cond (fun ht8=>?_) (fun ht8=>?_)
 ·have e:Ep L i=.bad 8 (A7 L i).at_:=if_pos ht8
  exact jy
 have e:Ep L i=.ok (A7 L i).text (i+1):=if_neg (by rw [ht8];simp)
 refine Z70 ?_
 refine R.go (h:=Q.loadUp ho) (hr:=?_)
 refine Z23 ?_
 refine R.storeUp jS ho ?_ ?_
 ·simp
 refine R.fin [3] ?_;refine Z17 ?_;refine Z3 ?_;exact K.fin (V.one V.tmp) (hp:=⟨_,i+1,e,rfl,rfl⟩)

theorem getset {Hp:List AObj} {o:Nat} {A B:AObj} (h:Hp[o]? = some A):(Hp.set o B)[o]? = some B:=by
 have:=(List.getElem?_eq_some_iff.1 h).1
 simp [this]
theorem ACb (L:List Tok) (i o:Nat) (Hp:List AObj) (ho:Hp[o]? = some (pmO L i)) (hi:i<L.length) (hl:TokEnd L) (hll:L.length≤500000):CP 177 [.ptr o 0] Hp (Gr L i) (fun c j r H'=>r=Ak c∧H'=Hp.set o (pmO L j)) (W1 L o Hp):=by
 refine ⟨fun hX=>?_⟩
 refine ACall.body [.cell 2 58] [0] Tryz.func177 Tryz.ntmps177 (fun d=>?_)
 refine Z63 ?_
 rcases hN:Ep L i with ⟨s,j⟩|⟨e,a⟩
 rotate_left
 ·exact (Bk hX (by first|exact by unfold Gr;rw [hN];rfl|exact hN)).elim
 have hj:j<L.length:=(Fi hl hi _ _ hN).2
 have e0:Gr L i=ca L s j:=by unfold Gr;rw [hN];rfl
 refine Z2 ?_;refine R.callUp (x:=pmO L j) Tryz.call156 ho (by simp) Cd ((gk L i o _ (A5 ho) hi hll).ok hN) ?_;refine Vd ?_;refine V4 ?_;refine Z2 ?_;refine R.call Tryz.call88 (c88 L j o _ (A5 (getset ho)) hj) ?_;refine Z20 ?_;refine R.fin [0,2,3,4] ?_;refine Z8 ?_;refine R.call Tryz.call198 (AB9 (A7 L j).text _) ?_;refine Z95 ?_;refine R.fin [0,2,3,4] ?_;refine Z1 ?_;refine Z27 ?_;refine Z66 ?_;refine R.fin [0,2,3,21] ?_
 refine W.cond (fun ht21=>?_) (fun ht21=>?_)
 ·have e:Gr L i=.bad 8 (A7 L j).at_:=by rw [e0];exact if_pos ht21
  exact jy
 have e:Gr L i=.ok ⟨s,No (A7 L j).text⟩ (j+1):=by rw [e0];exact if_neg (by rw [ht21];simp)
 refine Z70 ?_
 refine R.go (h:=Q.loadUp (getset ho)) (hr:=?_)
 refine Z23 ?_
 refine R.storeUp jS (getset ho) ?_ ?_
 ·simp
 refine F8 ?_;refine Z2 ?_;refine Z13 ?_;exact K.fin (V.one (V.cellN jA jS)) (hp:=⟨_,j+1,e,rfl,by rw [List.set_set];rfl⟩)

theorem AA9 (L:List Tok) (i o:Nat) (Hp:List AObj) (ho:Hp[o]? = some (pmO L i)) (hi:i<L.length) (hl:TokEnd L) (hll:L.length≤500000):CP 178 [.ptr o 0] Hp (Is L i) (fun c j r H'=>r=A4 c∧H'=Hp.set o (pmO L j)) (W1 L o Hp):=by
 refine ⟨fun hX=>?_⟩
 refine ACall.body [.cell 2 45] [0] Tryz.func178 Tryz.ntmps178 (fun d=>?_)
 refine Z63 ?_;refine W.drawY [0,1,3,7,0,16,48,112,255,511,1023,1023,1023,0,0,26623,61439,131071] [] [.q 13 [] [],.s [3] none [] [],.s [5] none [] [],.s [3] none [] [],.q 1 [] [],.s [5] none [] []] (fun _=>Hp) (fun _=>[.cells 45 [A2 0,A6 [],A2 0,A2 0,A6 [],.nil]]) Ad (by kernel_rfl) rfl rfl (fun _=>rfl) ?_
 apply Y.q
 case h1 =>
  intro B hT hF
  refine Z53 ?_
  refine D.go (h:=Q.loadUp ho) (hr:=?_)
  refine Z53 ?_
  refine D.go (h:=Q.loadUp ho) (hr:=?_)
  refine D.call Tryz.call199 (ABp L i hi hl hll (fun n Dv h1 h2=>gh hl (by omega) n Dv h1 h2) _) ?_;exact j9
 case hTF=>decide
 refine Y.allocP Tryz.zeroValue45 ?_;refine Y.allocP Tryz.zeroValue60 ?_;refine Y.storeP Tryz.sizeOf45 ?_
 apply Y.q
 case h1 =>
  intro B hT hF
  exact Z91
 case hTF=>decide
 refine Y.storeP Tryz.sizeOf60 ?_;refine Y.tail (tn:=[])  ?_;refine R.fin [0,2,3,4,5] ?_;refine Z35 ?_;refine R.fin [0,2,3,4,5,21] ?_
 refine W.cond (fun ht21=>?_) (fun ht21=>?_)
 ·have e:Is L i=.bad (atM L i).2.2.1 (atM L i).2.2.2:=if_pos ht21
  exact jy
 obtain ⟨k,hk,hkl⟩:=qx hl (by omega) hi (by simpa using ht21)
 have e:Is L i=.ok (atM L i).1 k:=(if_neg (by rw [ht21];simp)).trans (by rw [hk];rfl)
 rw [hk]
 refine Z5 ?_;refine Z41 ?_
 refine R.storeUp jS ho ?_ ?_
 ·simp
 refine F8 ?_;refine Z2 ?_;refine Z13 ?_;exact K.fin (V.one (V.cellN jA jS)) (hp:=⟨_,k,e,(A8 _).symm,rfl⟩) (hlow:=by have:=Ac Hp.length (atM L i).1;rw [A8] at this;exact this)

/-- The parser's object and the move's, turned. -/
def U2 (L:List Tok) (Hp:List AObj) (o om i:Nat) (x:AObj):List AObj:=(Hp.set o (pmO L i)).set om x
theorem U2_len {L:List Tok} {Hp:List AObj} {o om i:Nat} {x:AObj}:(U2 L Hp o om i x).length=Hp.length:=by simp [U2]
theorem Dc {L:List Tok} {Hp:List AObj} {o om i:Nat} {x z:AObj} (hm:Hp[om]? = some z):(U2 L Hp o om i x)[om]? = some x:=gB hm
theorem Cn {L:List Tok} {Hp:List AObj} {o om i:Nat} {x z:AObj} (ho:Hp[o]? = some z) (hne:om≠o):(U2 L Hp o om i x)[o]? = some (pmO L i):=gA ho hne
theorem D8 {L:List Tok} {Hp:List AObj} {o om i j:Nat} {x:AObj} (hne:om≠o):(U2 L Hp o om i x).set o (pmO L j)=U2 L Hp o om j x:=mu hne
theorem U2_setm {L:List Tok} {Hp:List AObj} {o om i:Nat} {x y:AObj}:(U2 L Hp o om i x).set om y=U2 L Hp o om i y:=List.set_set ..
theorem M7 {L:List Tok} {Hp:List AObj} {o om i:Nat} {x:AObj} (ho:Hp[o]? = some (pmO L i)) (hm:Hp[om]? = some x):U2 L Hp o om i x=Hp:=by unfold U2;rw [Ek ho,Ek hm]
theorem Ej {L:List Tok} {Hp:List AObj} {o om i q:Nat} {x:AObj} (h1:q≠o) (h2:q≠om):(U2 L Hp o om i x)[q]? = Hp[q]? := by unfold U2;rw [List.getElem?_set_ne (Ne.symm h2),List.getElem?_set_ne (Ne.symm h1)]
def W2 (L:List Tok) (o om:Nat) (Hp H':List AObj):Prop:=∃j m,H'=U2 L Hp o om j (mvO m)
theorem Ld {n k:Nat} {o:Bool} {l:List Expr} {x:Expr}:Low n (.slice o k (l.map A4++[.agg (Bt x)])):=by
 rw [show AV.agg (Bt x)=A4 x from (A8 x).symm];exact He
theorem E2 {n:Nat} {m:Mov}:ObjLow n (mvO m):=by
 show ∀y∈mvC m,Low n y
 intro y hy
 simp only [mvC,List.mem_cons,List.not_mem_nil,or_false] at hy
 rcases hy with rfl|rfl|rfl|rfl|rfl
 all_goals first|exact Cc|simp [or_imp,forall_and]
theorem gm {L:List Tok} {Hp:List AObj} {o om i:Nat} {m:Mov} {c:Col} {x:AObj}:(U2 L Hp o om i x).set om (.cells 64 [A2 m.kind,.slice true 1 (m.take.map A6),.slice true 2 (m.give.map Ak++[Ak c]),.slice true 6 (m.ahead.map A4),.slice true 6 (m.back.map A4)])=U2 L Hp o om i (mvO (C4 m c)):=by
 rw [U2_setm];simp only [mvO,mvC,C4,List.map_append,List.map_cons,List.map_nil]
theorem gn {L:List Tok} {Hp:List AObj} {o om i:Nat} {m:Mov} {e:Expr} {x:AObj}:(U2 L Hp o om i x).set om (.cells 64 [A2 m.kind,.slice true 1 (m.take.map A6),.slice true 2 (m.give.map Ak),.slice true 6 (m.ahead.map A4++[.agg (Bt e)]),.slice true 6 (m.back.map A4)])=U2 L Hp o om i (mvO (cb m e)):=by
 rw [U2_setm,show AV.agg (Bt e)=A4 e from (A8 e).symm];simp only [mvO,mvC,cb,List.map_append,List.map_cons,List.map_nil]
theorem gq {L:List Tok} {Hp:List AObj} {o om i:Nat} {m:Mov} {e:Expr} {x:AObj}:(U2 L Hp o om i x).set om (.cells 64 [A2 m.kind,.slice true 1 (m.take.map A6),.slice true 2 (m.give.map Ak),.slice true 6 (m.ahead.map A4),.slice true 6 (m.back.map A4++[.agg (Bt e)])])=U2 L Hp o om i (mvO (cd m e)):=by
 rw [U2_setm,show AV.agg (Bt e)=A4 e from (A8 e).symm];simp only [mvO,mvC,cd,List.map_append,List.map_cons,List.map_nil]
theorem gr {L:List Tok} {Hp:List AObj} {o om i:Nat} {m:Mov} {s:Str} {x:AObj}:(U2 L Hp o om i x).set om (.cells 64 [A2 m.kind,.slice true 1 (m.take.map A6++[A6 s]),.slice true 2 (m.give.map Ak),.slice true 6 (m.ahead.map A4),.slice true 6 (m.back.map A4)])=U2 L Hp o om i (mvO (ce m s)):=by
 rw [U2_setm];simp only [mvO,mvC,ce,List.map_append,List.map_cons,List.map_nil]

theorem ry (L:List Tok) (m:Mov) (i o om:Nat) (Hp:List AObj) (hne:om≠o) (ho:Hp[o]? = some (pmO L i)) (hm:Hp[om]? = some (mvO m)) (hi:i<L.length) (hl:TokEnd L) (hll:L.length≤500000) (hb:MvLe m (2*i-1)):CP 155 [.ptr o 0,.ptr om 0] Hp (Cz L m i) (fun m' j r H'=>r=Kq∧H'=U2 L Hp o om j (mvO m')) (W2 L o om Hp):=by
 refine ⟨fun hX=>?_⟩
 have:=hb.take;have:=hb.give;have:=hb.ahead;have:=hb.back
 refine ACall.body [] [0,1] Tryz.func155 Tryz.ntmps155 (fun d=>?_)
 rcases hC:Gr L i with ⟨c,j⟩|⟨e,a⟩
 rotate_left
 ·exact (Bk hX (by first|exact by unfold Cz;rw [hC];rfl|exact hC)).elim
 have hj:=Sx hl hi _ _ hC
 refine W.drawY [0,0,2,6,14,0,32,96,254,511,1023,2047] [4,6] [.q 4 [] [],.s [8] (some 0) [] [],.q 1 [] [1],.s [10] (some 1) [] [],.q 1 [1] [],.s [8,12] none [0,1] []] (fun B=>U2 L Hp o om (if B 1=true then j else i) (if B 0=true then .cells 64 [A2 m.kind,.slice true 1 (m.take.map A6),.slice false 2 (m.give.map Ak),.slice true 6 (m.ahead.map A4),.slice true 6 (m.back.map A4)] else .cells 64 [A2 m.kind,.slice true 1 (m.take.map A6),.slice true 2 (m.give.map Ak),.slice true 6 (m.ahead.map A4),.slice true 6 (m.back.map A4)])) (fun _=>[]) Ad (by kernel_rfl) (M7 ho hm) rfl (fun B=>U2_len) ?_
 apply Y.q
 case h1 =>
  intro B hT hF
  exact j9
 case hTF=>decide
 refine Y.loadUpT (o:=om) (t':=64) (cs:=[A2 m.kind,.slice true 1 (m.take.map A6),.slice true 2 (m.give.map Ak),.slice true 6 (m.ahead.map A4),.slice true 6 (m.back.map A4)]) (cs':=[A2 m.kind,.slice true 1 (m.take.map A6),.slice false 2 (m.give.map Ak),.slice true 6 (m.ahead.map A4),.slice true 6 (m.back.map A4)]) Tryz.isAgg22 (fun B hB=>⟨by simp only [hB];exact Dc hm,U2_setm.symm,rfl⟩) ?_
 apply Y.q
 case h1 =>
  intro B hT hF
  exact Z91
 case hTF=>decide
 refine Y.callUp (r:=Ak c) (o:=o) (x0:=pmO L i) (x:=pmO L j) Tryz.call177 (fun B hB1 hB2 hB=>⟨by simp only [hB];exact Cn ho hne,(D8 hne).symm,rfl,Cd,?_⟩) ?_
 ·simp only [hB]
  exact (ACb L i o _ (A5 (Cn ho hne)) hi hl hll).ok hC
 apply Y.q
 case h1 =>
  intro B hT hF
  exact Z50
 case hTF=>decide
 refine Y.append jU Tryz.type58 ?_ ?_ ?_
 ·simp [Tryz.t58];omega
 ·simp [Tryz.t58];omega
 refine Y.tail (tn:=[4,6]) (U:=U2 L Hp o om j (.cells 64 [A2 m.kind,.slice true 1 (m.take.map A6),.slice false 2 (m.give.map Ak),.slice true 6 (m.ahead.map A4),.slice true 6 (m.back.map A4)])) ?_;refine Z0 ?_
 refine R.storeUpT jS (Dc hm) ?_ ?_
 ·simp [or_imp,forall_and]
 refine R.fin [0,1] ?_;refine AW.upEq (gm (m:=m) (c:=c)) ?_
 rcases hW:Bl L [61] j with ⟨u,j2⟩|⟨e,a⟩
 rotate_left
 ·exact (Bk hX (by first|exact by unfold Cz;rw [hC];show (Bl L [61] j).bind _=_;rw [hW];rfl|exact hW)).elim
 have hj2:=E1 hl hj.2 _ _ hW
 refine Z2 ?_;refine R.callUp (x:=pmO L j2) Tryz.call123 (Cn ho hne) (by simp) Cd ((aa L [61] j o _ (A5 (Cn ho hne)) hj.2 hll).ok hW) ?_
 rw [D8 hne]
 refine R.fin [0,1] ?_
 rcases hT:Is L j2 with ⟨x,k⟩|⟨e,a⟩
 rotate_left
 ·exact (Bk hX (by first|exact by unfold Cz;rw [hC];show (Bl L [61] j).bind _=_;rw [hW];show (Is L j2).bind _=_;rw [hT];rfl|exact hT)).elim
 have hk:=M5 hl hll hj2.2 hT
 refine W.drawT0 [0,1,3,7,0,16,15,0,255,511,1023,511,2559,6655] [3,5] [.q 3 [] [0],.s [20] (some 0) [] [],.q 1 [] [1],.s [22] (some 1) [] [],.q 2 [] []] (fun B=>U2 L Hp o om (if B 1=true then k else j2) (if B 0=true then .cells 64 [A2 (C4 m c).kind,.slice true 1 ((C4 m c).take.map A6),.slice true 2 ((C4 m c).give.map Ak),.slice false 6 ((C4 m c).ahead.map A4),.slice true 6 ((C4 m c).back.map A4)] else .cells 64 [A2 (C4 m c).kind,.slice true 1 ((C4 m c).take.map A6),.slice true 2 ((C4 m c).give.map Ak),.slice true 6 ((C4 m c).ahead.map A4),.slice true 6 ((C4 m c).back.map A4)])) (fun _=>[]) Ad (by kernel_rfl) rfl rfl (fun B=>by rw [U2_len];exact U2_len.symm) ?_
 apply Y.q
 case h1 =>
  intro B hT hF
  refine Z53 ?_;exact Tr
 case hTF=>decide
 refine Y.loadUpT (o:=om) (t':=64) (cs:=[A2 (C4 m c).kind,.slice true 1 ((C4 m c).take.map A6),.slice true 2 ((C4 m c).give.map Ak),.slice true 6 ((C4 m c).ahead.map A4),.slice true 6 ((C4 m c).back.map A4)]) (cs':=[A2 (C4 m c).kind,.slice true 1 ((C4 m c).take.map A6),.slice true 2 ((C4 m c).give.map Ak),.slice false 6 ((C4 m c).ahead.map A4),.slice true 6 ((C4 m c).back.map A4)]) Tryz.isAgg43 (fun B hB=>⟨by simp only [hB];exact Dc hm,U2_setm.symm,rfl⟩) ?_
 apply Y.q
 case h1 =>
  intro B hT hF
  exact Z91
 case hTF=>decide
 refine Y.callUp (r:=A4 x) (o:=o) (x0:=pmO L j2) (x:=pmO L k) Tryz.call178 (fun B hB1 hB2 hB=>⟨by simp only [hB];exact Cn ho hne,(D8 hne).symm,rfl,Cd,?_⟩) ?_
 ·simp only [hB]
  exact (AA9 L j2 o _ (A5 (Cn ho hne)) hj2.2 hl hll).ok hT
 apply Y.q
 case h1 =>
  intro B hT hF
  exact jg
 case hTF=>decide
 refine Y.appendPut4 (tn:=[3,5]) (U:=U2 L Hp o om k (.cells 64 [A2 (C4 m c).kind,.slice true 1 ((C4 m c).take.map A6),.slice true 2 ((C4 m c).give.map Ak),.slice false 6 ((C4 m c).ahead.map A4),.slice true 6 ((C4 m c).back.map A4)])) (O:=[]) (o:=om) (t':=64) (cs:=[A2 (C4 m c).kind,.slice true 1 ((C4 m c).take.map A6),.slice true 2 ((C4 m c).give.map Ak),.slice false 6 ((C4 m c).ahead.map A4),.slice true 6 ((C4 m c).back.map A4)]) (by kernel_rfl) jU Tryz.type45 Tryz.sizeOf45 Tryz.sizeOf43 jU (A5 (Dc hm)) ?_ ?_ ?_ (hfsz:=Tryz.sizeOf43)
 ·simp [Tryz.t45,C4];omega
 ·simp [Tryz.t45,C4];omega
 refine Z0 ?_
 refine R.storeUpT jS (Dc hm) ?_ ?_
 ·exact Ld
 refine R.fin [] ?_;exact K.finN .nores (hp:=⟨cb (C4 m c) x,k,by unfold Cz;rw [hC];show (Bl L [61] j).bind _=_;rw [hW];show (Is L j2).bind _=_;rw [hT];rfl,rfl,by exact gn (m:=C4 m c)⟩)

/-- What is asked of a part of a move that is a closure. -/
def cg (L:List Tok) (o om g:Nat) (caps:List AV) (Hp:List AObj) (one:Mov→Nat→PR Mov):Prop:=
 ∀m i,MvLe m (2*i-1)→0<i→i<L.length→CP g caps (U2 L Hp o om i (mvO m)) (one m i) (fun m' j r H'=>r=Kq∧H'=U2 L Hp o om j (mvO m')) (W2 L o om Hp)
theorem Gm {L:List Tok} {Hp:List AObj} {o om i j:Nat} {x y:AObj} (hne:om≠o):U2 L (U2 L Hp o om i x) o om j y=U2 L Hp o om j y:=by
 unfold U2
 rw [mu hne,List.set_set]
theorem na {L:List Tok} {Hp H':List AObj} {o om i:Nat} {x:AObj} (hne:om≠o) (h:W2 L o om (U2 L Hp o om i x) H'):W2 L o om Hp H':=by
 obtain ⟨j,m,e⟩:=h
 exact ⟨j,m,by rw [e,Gm hne]⟩
theorem ACc (L:List Tok) (m:Mov) (i o om bp bm:Nat) (Hp:List AObj) (hne:om≠o) (ho:Hp[o]? = some (pmO L i)) (hm:Hp[om]? = some (mvO m)) (hbp:Hp[bp]? = some (.cells 94 [.ptr o 0])) (hbm:Hp[bm]? = some (.cells 155 [.ptr om 0])) (hi:i<L.length) (hl:TokEnd L) (hll:L.length≤500000) (hb:MvLe m (2*i-1)):CP 179 [.ptr bm 0,.ptr bp 0] Hp (Nv L m i) (fun m' j r H'=>r=Kq∧H'=U2 L Hp o om j (mvO m')) (W2 L o om Hp):=by
 refine ⟨fun hX=>?_⟩
 have n1:bp≠o:=fun e=>by rw [e,ho] at hbp;simp at hbp
 have n2:bp≠om:=fun e=>by rw [e,hm] at hbp;simp at hbp
 have n3:bm≠o:=fun e=>by rw [e,ho] at hbm;simp at hbm
 have n4:bm≠om:=fun e=>by rw [e,hm] at hbm;simp at hbm
 have:=hb.take;have:=hb.give;have:=hb.ahead;have:=hb.back
 refine ACall.body [] [0,1] Tryz.func179 Tryz.ntmps179 (fun d=>?_)
 refine W.flip Ad (by kernel_rfl) Tryz.zeroValue4 Tryz.sizeOf4 Tryz.isAgg4 (fun fb=>?_)
 refine AW.keep [0,1,3] (by simp only [go_sem,↓reduceIte,Nat.reduceEqDiff,Nat.reduceAdd]<;>rfl) ?_
 refine W.cond (fun ht3=>?_) (fun ht3=>?_)
 ·rcases hT:Is L i with ⟨x,k⟩|⟨e,a⟩
  rotate_left
  ·exact yw
  have hk:=M5 hl hll hi hT
  refine W.drawZ0 [0,1,3,7,0,16,15,0,255,511,1023,2047] [3,5] [.q 3 [] [0],.s [7] (some 0) [] [],.q 1 [] [1],.s [9] (some 1) [] [],.q 2 [] []] (fun B=>U2 L Hp o om (if B 1=true then k else i) (if B 0=true then .cells 64 [A2 m.kind,.slice true 1 (m.take.map A6),.slice true 2 (m.give.map Ak),.slice true 6 (m.ahead.map A4),.slice false 6 (m.back.map A4)] else .cells 64 [A2 m.kind,.slice true 1 (m.take.map A6),.slice true 2 (m.give.map Ak),.slice true 6 (m.ahead.map A4),.slice true 6 (m.back.map A4)])) (fun _=>[.cells 4 [.v (.bool fb)]]) Ad (by kernel_rfl) (M7 ho hm) rfl (fun B=>U2_len) ?_
  apply Y.q
  case h1 =>
   intro B hT hF
   refine D.go (h:=Q.loadUp ((Ej n3 n4).trans hbm)) (hr:=?_)
   exact dl
  case hTF=>decide
  refine Y.loadUpT (o:=om) (t':=64) (cs:=[A2 m.kind,.slice true 1 (m.take.map A6),.slice true 2 (m.give.map Ak),.slice true 6 (m.ahead.map A4),.slice true 6 (m.back.map A4)]) (cs':=[A2 m.kind,.slice true 1 (m.take.map A6),.slice true 2 (m.give.map Ak),.slice true 6 (m.ahead.map A4),.slice false 6 (m.back.map A4)]) Tryz.isAgg43 (fun B hB=>⟨by simp only [hB];exact Dc hm,U2_setm.symm,rfl⟩) ?_
  apply Y.q
  case h1 =>
   intro B hT hF
   refine D.go (h:=Q.loadUp ((Ej n1 n2).trans hbp)) (hr:=?_)
   exact Tr
  case hTF=>decide
  refine Y.callUp (r:=A4 x) (o:=o) (x0:=pmO L i) (x:=pmO L k) Tryz.call178 (fun B hB1 hB2 hB=>⟨by simp only [hB];exact Cn ho hne,(D8 hne).symm,rfl,Cd,?_⟩) ?_
  ·simp only [hB]
   exact yx
  apply Y.q
  case h1 =>
   intro B hT hF
   exact jg
  case hTF=>decide
  refine Y.put2 (tn:=[3,5]) (U:=U2 L Hp o om k (.cells 64 [A2 m.kind,.slice true 1 (m.take.map A6),.slice true 2 (m.give.map Ak),.slice true 6 (m.ahead.map A4),.slice false 6 (m.back.map A4)])) (O:=[.cells 4 [.v (.bool fb)]]) (o:=om) (t':=64) (cs:=[A2 m.kind,.slice true 1 (m.take.map A6),.slice true 2 (m.give.map Ak),.slice true 6 (m.ahead.map A4),.slice false 6 (m.back.map A4)]) jU Tryz.type45 Tryz.sizeOf45 Tryz.sizeOf43 jU (A5 (Dc hm)) ?_ ?_ ?_ (hfsz:=Tryz.sizeOf43)
  ·simp [Tryz.t45];omega
  ·simp [Tryz.t45];omega
  refine Z0 ?_
  refine R.storeUpT jS (Dc hm) ?_ ?_
  ·exact Ld
  exact wu
 rcases hT:Is L i with ⟨x,k⟩|⟨e,a⟩
 rotate_left
 ·exact yw
 have hk:=M5 hl hll hi hT
 refine W.drawY0 [0,0,2,6,14,0,32,96,254,511,1023,2047] [4,6] [.q 4 [] [],.s [20] (some 0) [] [],.q 1 [] [1],.s [22] (some 1) [] [],.q 1 [1] [],.s [20,24] none [0,1] []] (fun B=>U2 L Hp o om (if B 1=true then k else i) (if B 0=true then .cells 64 [A2 m.kind,.slice true 1 (m.take.map A6),.slice true 2 (m.give.map Ak),.slice true 6 (m.ahead.map A4),.slice false 6 (m.back.map A4)] else .cells 64 [A2 m.kind,.slice true 1 (m.take.map A6),.slice true 2 (m.give.map Ak),.slice true 6 (m.ahead.map A4),.slice true 6 (m.back.map A4)])) (fun _=>[.cells 4 [.v (.bool fb)]]) Ad (by kernel_rfl) (M7 ho hm) rfl (fun B=>U2_len) ?_
 apply Y.q
 case h1 =>
  intro B hT hF
  refine D.go (h:=Q.loadUp ((Ej n3 n4).trans hbm)) (hr:=?_)
  refine D.go (h:=Q.loadUp ((Ej n3 n4).trans hbm)) (hr:=?_)
  exact dl
 case hTF=>decide
 refine Y.loadUpT (o:=om) (t':=64) (cs:=[A2 m.kind,.slice true 1 (m.take.map A6),.slice true 2 (m.give.map Ak),.slice true 6 (m.ahead.map A4),.slice true 6 (m.back.map A4)]) (cs':=[A2 m.kind,.slice true 1 (m.take.map A6),.slice true 2 (m.give.map Ak),.slice true 6 (m.ahead.map A4),.slice false 6 (m.back.map A4)]) Tryz.isAgg43 (fun B hB=>⟨by simp only [hB];exact Dc hm,U2_setm.symm,rfl⟩) ?_
 apply Y.q
 case h1 =>
  intro B hT hF
  refine D.go (h:=Q.loadUp ((Ej n1 n2).trans hbp)) (hr:=?_)
  exact Tr
 case hTF=>decide
 refine Y.callUp (r:=A4 x) (o:=o) (x0:=pmO L i) (x:=pmO L k) Tryz.call178 (fun B hB1 hB2 hB=>⟨by simp only [hB];exact Cn ho hne,(D8 hne).symm,rfl,Cd,?_⟩) ?_
 ·simp only [hB]
  exact yx
 apply Y.q
 case h1 =>
  intro B hT hF
  exact Z50
 case hTF=>decide
 refine Y.append jU Tryz.type45 ?_ ?_ ?_
 ·simp [Tryz.t45];omega
 ·simp [Tryz.t45];omega
 refine Y.tail (tn:=[4,6]) (U:=U2 L Hp o om k (.cells 64 [A2 m.kind,.slice true 1 (m.take.map A6),.slice true 2 (m.give.map Ak),.slice true 6 (m.ahead.map A4),.slice false 6 (m.back.map A4)])) ?_;refine Z0 ?_
 refine R.storeUpT jS (Dc hm) ?_ ?_
 ·exact Ld
 exact wu

theorem Fj {L:List Tok} {Hp:List AObj} {o om i j n:Nat} {x y:AObj} (hne:om≠o) (hy:ObjLow n y) (h:∀z∈U2 L Hp o om i x,ObjLow n z):∀z∈U2 L Hp o om j y,ObjLow n z:=by
 intro z hz
 rw [show U2 L Hp o om j y=((U2 L Hp o om i x).set o (pmO L j)).set om y by rw [D8 hne,U2_setm]] at hz
 rcases List.mem_or_eq_of_mem_set hz with hz|rfl
 ·rcases List.mem_or_eq_of_mem_set hz with hz|rfl
  ·exact h z hz
  exact Cd
 exact hy
theorem Cv {L:List Tok} {Hp own:List AObj} {o om i:Nat} {x:AObj} (h1:o<Hp.length) (h2:om<Hp.length):U2 L (Hp++own) o om i x=U2 L Hp o om i x++own:=by
 unfold U2
 rw [List.set_append_left _ _ h1,List.set_append_left _ _ (by simpa using h2)]
/-- Where the loop of things with commas between stands. -/
structure ListAt (L:List Tok) (n:Int) (one:Mov→Nat→PR Mov) (X:PR Mov) (x:Nat×Mov×Nat):Prop where
 lt:x.2.2<L.length
 pos:0<x.2.2
 le:MvLe x.2.1 (2*x.2.2)
 k:x.1≤x.2.2
 fuel:∃f,X=M3 L n one f x.1 x.2.1 x.2.2∧L.length-x.2.2<f
theorem ListAt.step {L:List Tok} {n:Int} {one:Mov→Nat→PR Mov} {X:PR Mov} {x:Nat×Mov×Nat} (h:ListAt L n one X x) (hq:Nu L n x.1 x.2.2=true):∃f,X=((Bl L [44] x.2.2).bind fun _ j=>(one x.2.1 j).bind fun m j=>M3 L n one f (x.1+1) m j)∧L.length-x.2.2<f+1:=by
 obtain ⟨f,e,hf⟩:=h.fuel
 obtain ⟨f,rfl⟩:∃g,f=g+1:=⟨f-1,by omega⟩
 refine ⟨f,?_,hf⟩
 rw [e,M3,if_pos hq]
theorem ListAt.on {L:List Tok} (hl:TokEnd L) {n:Int} {one:Mov→Nat→PR Mov} (hP:Ra L one) {X:PR Mov} {x:Nat×Mov×Nat} (h:ListAt L n one X x) (hq:Nu L n x.1 x.2.2=true) {u:Unit} {j:Nat} (hW:Bl L [44] x.2.2=.ok u j) {m2:Mov} {j2:Nat} (hO:one x.2.1 j=.ok m2 j2):ListAt L n one X (x.1+1,m2,j2)∧x.2.2<j2:=by
 obtain ⟨f,e,hf⟩:=h.step hq
 have h1:=E1 hl h.lt _ _ hW
 have hj:j=x.2.2+1:=by
  unfold Bl at hW
  split at hW
  ·injection hW with _ h;exact h.symm
  cases hW
 obtain ⟨a1,a2,a3⟩:=hP x.2.1 j (h.le.mono (by omega)) (by omega) h1.2 _ _ hO
 have:=h.k
 refine ⟨⟨a2,by show 0<j2;omega,a3,by show x.1+1≤j2;omega,f,?_,by show L.length-j2<f;omega⟩,by omega⟩
 rw [e,hW]
 show (one x.2.1 j).bind _=_
 rw [hO];rfl
theorem ListAt.bad1 {L:List Tok} {n:Int} {one:Mov→Nat→PR Mov} {X:PR Mov} {x:Nat×Mov×Nat} (h:ListAt L n one X x) (hq:Nu L n x.1 x.2.2=true) {e a:Int} (hW:Bl L [44] x.2.2=.bad e a):X=.bad e a:=by
 obtain ⟨f,e,_⟩:=h.step hq
 rw [e,hW];rfl
theorem ListAt.bad2 {L:List Tok} {n:Int} {one:Mov→Nat→PR Mov} {X:PR Mov} {x:Nat×Mov×Nat} (h:ListAt L n one X x) (hq:Nu L n x.1 x.2.2=true) {u:Unit} {j:Nat} (hW:Bl L [44] x.2.2=.ok u j) {e a:Int} (hO:one x.2.1 j=.bad e a):X=.bad e a:=by
 obtain ⟨f,e,_⟩:=h.step hq
 rw [e,hW]
 show (one x.2.1 j).bind _=_
 rw [hO];rfl
theorem ListAt.out {L:List Tok} {n:Int} {one:Mov→Nat→PR Mov} {X:PR Mov} {x:Nat×Mov×Nat} (h:ListAt L n one X x) (hq:Nu L n x.1 x.2.2=false):X=.ok x.2.1 x.2.2:=by
 obtain ⟨f,e,hf⟩:=h.fuel
 obtain ⟨f,rfl⟩:∃g,f=g+1:=⟨f-1,by omega⟩
 rw [e,M3,if_neg (by rw [hq];simp)]
theorem ACd (L:List Tok) (m:Mov) (i o om bp bm:Nat) (Hp:List AObj) (hne:om≠o) (ho:Hp[o]? = some (pmO L i)) (hm:Hp[om]? = some (mvO m)) (hbp:Hp[bp]? = some (.cells 94 [.ptr o 0])) (hbm:Hp[bm]? = some (.cells 155 [.ptr om 0])) (hi:i<L.length) (hl:TokEnd L) (hll:L.length≤500000) (hb:MvLe m (2*i-1)):CP 161 [.ptr bm 0,.ptr bp 0] Hp (M4 L m i) (fun m' j r H'=>r=Kq∧H'=U2 L Hp o om j (mvO m')) (W2 L o om Hp):=by
 refine ⟨fun hX=>?_⟩
 have n1:bp≠o:=fun e=>by rw [e,ho] at hbp;simp at hbp
 have n2:bp≠om:=fun e=>by rw [e,hm] at hbp;simp at hbp
 have n3:bm≠o:=fun e=>by rw [e,ho] at hbm;simp at hbm
 have n4:bm≠om:=fun e=>by rw [e,hm] at hbm;simp at hbm
 have:=hb.take;have:=hb.give;have:=hb.ahead;have:=hb.back
 refine ACall.body [] [0,1] Tryz.func161 Tryz.ntmps161 (fun d=>?_)
 rcases hT:Ep L i with ⟨s,k⟩|⟨e,a⟩
 rotate_left
 ·exact (Bk hX (by first|exact by unfold M4;rw [hT];rfl|exact hT)).elim
 have hk:=Fi hl hi _ _ hT
 refine W.drawY0 [0,0,2,6,14,0,32,96,254,511,1023,2047] [4,6] [.q 4 [] [],.s [6] (some 0) [] [],.q 1 [] [1],.s [8] (some 1) [] [],.q 1 [1] [],.s [6,10] none [0,1] []] (fun B=>U2 L Hp o om (if B 1=true then k else i) (if B 0=true then .cells 64 [A2 m.kind,.slice false 1 (m.take.map A6),.slice true 2 (m.give.map Ak),.slice true 6 (m.ahead.map A4),.slice true 6 (m.back.map A4)] else .cells 64 [A2 m.kind,.slice true 1 (m.take.map A6),.slice true 2 (m.give.map Ak),.slice true 6 (m.ahead.map A4),.slice true 6 (m.back.map A4)])) (fun _=>[]) Ad (by kernel_rfl) (M7 ho hm) rfl (fun B=>U2_len) ?_
 apply Y.q
 case h1 =>
  intro B hT hF
  refine D.go (h:=Q.loadUp ((Ej n3 n4).trans hbm)) (hr:=?_)
  refine D.go (h:=Q.loadUp ((Ej n3 n4).trans hbm)) (hr:=?_)
  exact dl
 case hTF=>decide
 refine Y.loadUpT (o:=om) (t':=64) (cs:=[A2 m.kind,.slice true 1 (m.take.map A6),.slice true 2 (m.give.map Ak),.slice true 6 (m.ahead.map A4),.slice true 6 (m.back.map A4)]) (cs':=[A2 m.kind,.slice false 1 (m.take.map A6),.slice true 2 (m.give.map Ak),.slice true 6 (m.ahead.map A4),.slice true 6 (m.back.map A4)]) Tryz.isAgg37 (fun B hB=>⟨by simp only [hB];exact Dc hm,U2_setm.symm,rfl⟩) ?_
 apply Y.q
 case h1 =>
  intro B hT hF
  refine D.go (h:=Q.loadUp ((Ej n1 n2).trans hbp)) (hr:=?_)
  exact Tr
 case hTF=>decide
 refine Y.callUp (r:=A6 s) (o:=o) (x0:=pmO L i) (x:=pmO L k) Tryz.call156 (fun B hB1 hB2 hB=>⟨by simp only [hB];exact Cn ho hne,(D8 hne).symm,rfl,Cd,?_⟩) ?_
 ·simp only [hB]
  exact (gk L i o _ (A5 (Cn ho hne)) hi hll).ok hT
 apply Y.q
 case h1 =>
  intro B hT hF
  exact Z50
 case hTF=>decide
 refine Y.append jU Tryz.type9 ?_ ?_ ?_
 ·simp [Tryz.t9];omega
 ·simp [Tryz.t9];omega
 refine Y.tail (tn:=[4,6]) (U:=U2 L Hp o om k (.cells 64 [A2 m.kind,.slice false 1 (m.take.map A6),.slice true 2 (m.give.map Ak),.slice true 6 (m.ahead.map A4),.slice true 6 (m.back.map A4)])) ?_;refine Z0 ?_
 refine R.storeUpT jS (Dc hm) ?_ ?_
 ·simp [or_imp,forall_and]
 refine R.fin [] ?_;exact K.finN .nores (hp:=⟨ce m s,k,by unfold M4;rw [hT];rfl,rfl,by exact gr⟩)

theorem ACe (L:List Tok) (m:Mov) (i o om bp bm:Nat) (Hp:List AObj) (hne:om≠o) (ho:Hp[o]? = some (pmO L i)) (hm:Hp[om]? = some (mvO m)) (hbp:Hp[bp]? = some (.cells 94 [.ptr o 0])) (hbm:Hp[bm]? = some (.cells 155 [.ptr om 0])) (hi:i<L.length) (hl:TokEnd L) (hll:L.length≤500000) (hb:MvLe m (2*i-1)):CP 160 [.ptr bp 0,.ptr bm 0] Hp (Cz L m i) (fun m' j r H'=>r=Kq∧H'=U2 L Hp o om j (mvO m')) (W2 L o om Hp):=by
 refine ⟨fun hX=>?_⟩
 have hol:=(List.getElem?_eq_some_iff.1 ho).1
 have hml:=(List.getElem?_eq_some_iff.1 hm).1
 have n1:bp≠o:=fun e=>by rw [e,ho] at hbp;simp at hbp
 have n2:bp≠om:=fun e=>by rw [e,hm] at hbp;simp at hbp
 have n3:bm≠o:=fun e=>by rw [e,ho] at hbm;simp at hbm
 have n4:bm≠om:=fun e=>by rw [e,hm] at hbm;simp at hbm
 have:=hb.take;have:=hb.give;have:=hb.ahead;have:=hb.back
 refine ACall.body [] [0,1] Tryz.func160 Tryz.ntmps160 (fun d=>?_)
 refine jz ?_
 rcases hT:Cz L m i with ⟨m2,k⟩|⟨e,a⟩
 rotate_left
 ·exact (Bk hX hT).elim
 refine AW.region ?_
 refine R.go (h:=Q.loadUp ((Ej n1 n2).trans hbp)) (hr:=?_)
 refine R.go (h:=Q.loadUp ((Ej n3 n4).trans hbm)) (hr:=?_)
 refine R.callX (up':=U2 L Hp o om k (mvO m2)) (own':=[]) Tryz.call155 (((ry L m i o om _ hne (A5 (Cn ho hne)) (A5 (Dc hm)) hi hl hll hb).ok hT).mono (fun r H' e=>⟨e.1,e.2.trans (by rw [List.append_nil,List.append_nil,Gm hne])⟩)) (by rw [U2_len,U2_len]) (fun h=>Fj hne E2 h) ?_;refine R.fin [] ?_;exact K.finN .nores (hp:=⟨m2,k,rfl,rfl,rfl⟩)

theorem w7 (L:List Tok) (n:Int) (m:Mov) (i o om g:Nat) (caps:List AV) (one:Mov→Nat→PR Mov) (Hp:List AObj) (hne:om≠o) (ho:Hp[o]? = some (pmO L i)) (hm:Hp[om]? = some (mvO m)) (h0:0<i) (hi:i<L.length) (hl:TokEnd L) (hll:L.length≤500000) (hb:MvLe m (2*i-1)) (hcall:∀args w,(callFunc g args).run Tryz.prog w=.ok (.enter g args) w) (hC:cg L o om g caps Hp one) (hP:Ra L one):CP 159 [.ptr o 0,A2 n,.fn (.func g) [] caps] Hp (Fg L n one m i) (fun m' j r H'=>r=Kq∧H'=U2 L Hp o om j (mvO m')) (W2 L o om Hp):=by
 refine ⟨fun hX=>?_⟩
 have hol:=(List.getElem?_eq_some_iff.1 ho).1
 have hml:=(List.getElem?_eq_some_iff.1 hm).1
 refine ACall.body [] [0,1,2] Tryz.func159 Tryz.ntmps159 (fun d=>?_)
 refine jz ?_
 rcases h1:one m i with ⟨m1,j1⟩|⟨e,a⟩
 rotate_left
 ·exact (Bk hX (by first|exact by unfold Fg;rw [h1];rfl|exact h1)).elim
 have g1:=hP m i hb h0 hi _ _ h1
 have e0:Fg L n one m i=M3 L n one (L.length+1) 1 m1 j1:=by unfold Fg;rw [h1];rfl
 refine Z2 ?_
 refine R.callVX (up':=U2 L Hp o om j1 (mvO m1)) (own':=[]) hcall (by rw [List.append_nil,List.append_nil];exact (hC m i hb h0 hi).ok h1) (by rw [U2_len,U2_len]) (fun h=>Fj hne E2 h) ?_
 refine Tp ?_;refine Z2 ?_;refine Y4 ?_
 refine AW.loopC (α:=Nat×Mov×Nat) (fun x=>⟨30,A3 0 (.ptr o 0) (A3 1 (A2 n) (A3 2 (.fn (.func g) [] caps) (A3 6 (A2 (x.1:Int)) (fun _=>.any)))),U2 L Hp o om x.2.2 (mvO x.2.1),[],[],none⟩) (fun x=>ListAt L n one (Fg L n one m i) x) (fun x=>L.length-x.2.2) ((1,m1,j1)) ⟨g1.2.1,by show 0<j1;omega,g1.2.2,by show 1≤j1;omega,_,e0,by show L.length-j1<_;omega⟩ (StLe.refl _) rfl (fun x hx=>?_)
 refine Z8 ?_;refine Z56 ?_;refine Va ?_;refine G.call Tryz.call162 (fun hB=>AA8 L [44] x.2.2 o _ (A5 (Cn ho hne)) hx.lt) ?_;refine Tm ?_;refine R.fin [0,1,2,6,23] ?_
 refine W.cond (fun ht23=>?_) (fun ht23=>?_)
 ·have hq:Nu L n x.1 x.2.2=true:=ht23
  refine Z43 ?_
  rcases hW:Bl L [44] x.2.2 with ⟨u,j⟩|⟨e,a⟩
  rotate_left
  ·exact (Bk hX (by first|exact hx.bad1 hq hW|exact hW)).elim
  have hj:=E1 hl hx.lt _ _ hW
  have hpos:=hx.pos
  refine Z2 ?_;refine R.callUp (x:=pmO L j) Tryz.call123 (Cn ho hne) (by simp) Cd ((aa L [44] x.2.2 o _ (A5 (Cn ho hne)) hx.lt hll).ok hW) ?_
  rw [D8 hne]
  refine Y4 ?_
  rcases hO:one x.2.1 j with ⟨m2,j2⟩|⟨e,a⟩
  rotate_left
  ·exact (Bk hX (by first|exact hx.bad2 hq hW hO|exact hO)).elim
  have hon:=hx.on hl hP hq hW hO
  refine Z61 ?_
  refine R.callVX (up':=U2 L Hp o om j2 (mvO m2)) (own':=[]) hcall (by rw [List.append_nil,List.append_nil];exact (hC x.2.1 j (hx.le.mono (by omega)) (by omega) hj.2).ok hO) (by rw [U2_len,U2_len]) (fun h=>Fj hne E2 h) ?_
  refine Y4 ?_;refine Z9 ?_;refine Z61 ?_
  refine R.go (h:=Q.add64 (h2:=fun _=>by have:=hx.k;have:=hx.lt;omega)) (hr:=?_)
  refine R.go ?_;refine Y4 ?_
  refine K.lpN (x.1+1,m2,j2) hon.1 (by have:=hx.lt;have:=hon.2;show L.length-j2<L.length-x.2.2;omega) (StCut.of_eq rfl)
 have hq:Nu L n x.1 x.2.2=false:=ht23
 have e:=hx.out hq
 refine dw ?_;exact K.finN .nores (hp:=⟨_,_,e,rfl,rfl⟩)

theorem CP.mono {g:FuncId} {args:List AV} {H:List AObj} {α:Type} {X:PR α} {Q Q':α→Nat→AV→List AObj→Prop} {R R':List AObj→Prop} (h:CP g args H X Q R) (hQ:∀c j r H',Q c j r H'→Q' c j r H') (hR:∀H',R H'→R' H'):CP g args H X Q' R':=
 ⟨fun hX=>(h.run hX).mono (fun r H' ⟨c,j,e,hq⟩=>⟨c,j,e,hQ _ _ _ _ hq⟩)⟩
section
variable {L:List Tok} {o om bp bm:Nat} {X:List AObj} {z z':AObj}
theorem gt (hne:om≠o) (ho:X[o]? = some z) (hm:X[om]? = some z') (hbp:X[bp]? = some (.cells 94 [.ptr o 0])) (hbm:X[bm]? = some (.cells 155 [.ptr om 0])) (n1:bp≠o) (n2:bp≠om) (n3:bm≠o) (n4:bm≠om) (hl:TokEnd L) (hll:L.length≤500000):cg L o om 179 [.ptr bm 0,.ptr bp 0] X (Nv L):=
 fun m i hb _ hi=>(ACc L m i o om bp bm (U2 L X o om i (mvO m)) hne (Cn ho hne) (Dc hm) ((Ej n1 n2).trans hbp) ((Ej n3 n4).trans hbm) hi hl hll hb).mono (fun c j r H' e=>⟨e.1,e.2.trans (Gm hne)⟩) (fun H' h=>na hne h)
theorem gu (hne:om≠o) (ho:X[o]? = some z) (hm:X[om]? = some z') (hbp:X[bp]? = some (.cells 94 [.ptr o 0])) (hbm:X[bm]? = some (.cells 155 [.ptr om 0])) (n1:bp≠o) (n2:bp≠om) (n3:bm≠o) (n4:bm≠om) (hl:TokEnd L) (hll:L.length≤500000):cg L o om 161 [.ptr bm 0,.ptr bp 0] X (M4 L):=
 fun m i hb _ hi=>(ACd L m i o om bp bm (U2 L X o om i (mvO m)) hne (Cn ho hne) (Dc hm) ((Ej n1 n2).trans hbp) ((Ej n3 n4).trans hbm) hi hl hll hb).mono (fun c j r H' e=>⟨e.1,e.2.trans (Gm hne)⟩) (fun H' h=>na hne h)
theorem gw (hne:om≠o) (ho:X[o]? = some z) (hm:X[om]? = some z') (hbp:X[bp]? = some (.cells 94 [.ptr o 0])) (hbm:X[bm]? = some (.cells 155 [.ptr om 0])) (n1:bp≠o) (n2:bp≠om) (n3:bm≠o) (n4:bm≠om) (hl:TokEnd L) (hll:L.length≤500000):cg L o om 160 [.ptr bp 0,.ptr bm 0] X (Cz L):=
 fun m i hb _ hi=>(ACe L m i o om bp bm (U2 L X o om i (mvO m)) hne (Cn ho hne) (Dc hm) ((Ej n1 n2).trans hbp) ((Ej n3 n4).trans hbm) hi hl hll hb).mono (fun c j r H' e=>⟨e.1,e.2.trans (Gm hne)⟩) (fun H' h=>na hne h)
end
attribute [go_sem] U2_len
theorem gx {L:List Tok} {Hp own:List AObj} {o om i n:Nat} {x z:AObj} (h:own[n]? = some z):(U2 L Hp o om i x++own)[oid Hp.length n]? = some z:=by
 unfold oid
 rw [List.getElem?_append_right (by rw [U2_len];omega),U2_len,Nat.add_sub_cancel_left]
 exact h
theorem Gj {n k o:Nat} (h:o<n):oid n k≠o:=by unfold oid;omega
theorem rz (L:List Tok) (m:Mov) (i o om:Nat) (Hp:List AObj) (hne:om≠o) (ho:Hp[o]? = some (pmO L i)) (hm:Hp[om]? = some (mvO m)) (hi:i<L.length) (hl:TokEnd L) (hll:L.length≤500000) (hb:MvLe m (2*i)):CP 157 [.ptr o 0,.ptr om 0] Hp (Dt L m i) (fun m' j r H'=>r=Kq∧H'=U2 L Hp o om j (mvO m')) (W2 L o om Hp):=by
 refine ⟨fun hX=>?_⟩
 have hol:=(List.getElem?_eq_some_iff.1 ho).1
 have hml:=(List.getElem?_eq_some_iff.1 hm).1
 refine ACall.body [] [0,1] Tryz.func157 Tryz.ntmps157 (fun d=>?_)
 refine dp ?_;refine R.box ?_;refine F8 ?_;refine jz ?_
 rcases hW:Bl L n9 i with ⟨u,j⟩|⟨e,a⟩
 rotate_left
 ·exact (Bk hX (by first|exact by unfold Dt;rw [hW];rfl|exact hW)).elim
 have hj:=E1 hl hi _ _ hW
 refine Z2 ?_;refine R.callUp (x:=pmO L j) Tryz.call123 (Cn ho hne) (by simp) Cd ((aa L n9 i o _ (A5 (Cn ho hne)) hi hll).ok hW) ?_
 rw [D8 hne]
 refine F8 ?_
 rcases hP:Fg L ((m.take.map A6).length:Int) (Nv L) m j with ⟨m2,k⟩|⟨e,a⟩
 rotate_left
 ·exact (Bk hX (by first|exact by unfold Dt;rw [hW];show Fg L _ _ m j=_;rw [←hP,List.length_map]|exact hP)).elim
 refine W.drawQ0 [0,0,2,6,14,30,0,127] 7 Ad (by kernel_rfl) ?_;refine Z81 ?_
 refine D.go (h:=Q.loadUp (Dc hm)) (hr:=?_)
 refine D.go ?_;refine D.makeFunc ?_;refine D.tail ?_
 refine R.callX (up':=U2 L Hp o om k (mvO m2)) (own':=[.cells 94 [.ptr o 0],.cells 155 [.ptr om 0]]) Tryz.call159 (((w7 L (((m.take.map A6).length:Int)) m j o om 179 [.ptr (oid Hp.length 1) 0,.ptr (oid Hp.length 0) 0] (Nv L) (U2 L Hp o om j (mvO m)++[.cells 94 [.ptr o 0],.cells 155 [.ptr om 0]]) hne (A5 (Cn ho hne)) (A5 (Dc hm)) (by omega) hj.2 hl hll (hb.mono (by omega)) Tryz.call179 (gt (z:=pmO L j) (z':=mvO m) hne (A5 (Cn ho hne)) (A5 (Dc hm)) (gx rfl) (gx rfl) (Gj hol) (Gj hml) (Gj hol) (Gj hml) hl hll) (X4 hl hll)).ok hP).mono (fun r H' e=>⟨e.1,e.2.trans (by first|rw [Cv (by rw [U2_len];exact hol) (by rw [U2_len];exact hml),Gm hne]|rw [Cv hol hml])⟩)) (by first|rfl|rw [U2_len,U2_len]|rw [U2_len]) (fun h=>Fj hne E2 h) ?_
 refine R.fin [] ?_;exact K.finN .nores (hp:=⟨m2,k,by unfold Dt;rw [hW];show Fg L _ _ m j=_;rw [←hP,List.length_map],rfl,rfl⟩)

theorem Sy {L:List Tok} {Hp:List AObj} {o om i:Nat} {m:Mov} {s:Str} {x:AObj}:(U2 L Hp o om i x).set om (.cells 64 [A2 m.kind,.slice true 1 [A6 s],.slice true 2 (m.give.map Ak),.slice true 6 (m.ahead.map A4),.slice true 6 (m.back.map A4)])=U2 L Hp o om i (mvO (takeS m s)):=U2_setm
theorem cj {n:Nat} {x:Expr}:Low n (.slice true 6 [.agg (Bt x)]):=by
 have:=Cc (n:=n) (k:=6) (o:=true) (l:=[x])
 simp only [List.map_cons,List.map_nil] at this
 rw [A8] at this
 exact this
theorem X6 {n:Nat} {x:Expr}:Low n (.slice true 6 [A4 x]):=Cc (l:=[x])
theorem nb {L:List Tok} {m m1:Mov} {i k:Nat} (h:Cz L m i=.ok m1 k):(m1.give.map Ak)[0]? = some (Ak (m1.give.getD 0 ⟨[],0⟩)):=by
 obtain ⟨c,j,h1,h2⟩:=PR.bind_ok h
 obtain ⟨u,j2,h3,h4⟩:=PR.bind_ok h2
 obtain ⟨x,j3,h5,h6⟩:=PR.bind_ok h4
 injection h6 with h6 h7
 subst h6
 show ((m.give++[c]).map Ak)[0]? = some (Ak ((m.give++[c]).getD 0 ⟨[],0⟩))
 cases m.give<;>rfl
section
variable {L:List Tok} {m:Mov} {i:Nat}
theorem nd (h1:(m.kind==1)=true):Fh L m i=Cz L m i:=if_pos h1
theorem ac (h1:(m.kind==1)=false) (h2:(m.kind==2)=true):Fh L m i=(Ep L i).bind fun s j=>Dt L (takeS m s) j:=by
 unfold Fh;rw [if_neg (by rw [h1];simp),if_pos h2]
theorem nf (h1:(m.kind==1)=false) (h2:(m.kind==2)=false) (h3:(m.kind==3)=true):Fh L m i=Gs L m i:=by
 unfold Fh;rw [if_neg (by rw [h1];simp),if_neg (by rw [h2];simp),if_pos h3]
theorem Qs (h1:(m.kind==1)=false) (h2:(m.kind==2)=false) (h3:(m.kind==3)=false) (h4:(m.kind==4)=true):Fh L m i=(Ep L i).bind fun s j=>(Bl L Gl j).bind fun _ j=>(Fg L 0 (Cz L) (takeS m s) j).bind fun m j=>Dt L m j:=by
 unfold Fh;rw [if_neg (by rw [h1];simp),if_neg (by rw [h2];simp),if_neg (by rw [h3];simp),if_pos h4]
theorem Qt (h1:(m.kind==1)=false) (h2:(m.kind==2)=false) (h3:(m.kind==3)=false) (h4:(m.kind==4)=false) (h5:(m.kind==5)=true):Fh L m i=(Fg L 0 (M4 L) m i).bind fun m j=>(Bl L Gl j).bind fun _ j=>(Cz L m j).bind fun m j=>Dt L m j:=by
 unfold Fh;rw [if_neg (by rw [h1];simp),if_neg (by rw [h2];simp),if_neg (by rw [h3];simp),if_neg (by rw [h4];simp),if_pos h5]
theorem ae (h1:(m.kind==1)=false) (h2:(m.kind==2)=false) (h3:(m.kind==3)=false) (h4:(m.kind==4)=false) (h5:(m.kind==5)=false) (h6:(m.kind==6)=true):Fh L m i=(Cz L m i).bind fun m j=>Dt L (takeS m (m.give.getD 0 ⟨[],0⟩).name) j:=by
 unfold Fh;rw [if_neg (by rw [h1];simp),if_neg (by rw [h2];simp),if_neg (by rw [h3];simp),if_neg (by rw [h4];simp),if_neg (by rw [h5];simp),if_pos h6]
theorem w8 (h1:(m.kind==1)=false) (h2:(m.kind==2)=false) (h3:(m.kind==3)=false) (h4:(m.kind==4)=false) (h5:(m.kind==5)=false) (h6:(m.kind==6)=false):Fh L m i=.ok m i:=by
 unfold Fh;rw [if_neg (by rw [h1];simp),if_neg (by rw [h2];simp),if_neg (by rw [h3];simp),if_neg (by rw [h4];simp),if_neg (by rw [h5];simp),if_neg (by rw [h6];simp)]
end
theorem ACf (L:List Tok) (m:Mov) (i o om:Nat) (Hp:List AObj) (hne:om≠o) (ho:Hp[o]? = some (pmO L i)) (hm:Hp[om]? = some (mvO m)) (hi:i<L.length) (hl:TokEnd L) (hll:L.length≤500000) (hb:MvLe m (2*i-1)):CP 158 [.ptr o 0,.ptr om 0] Hp (Gs L m i) (fun m' j r H'=>r=Kq∧H'=U2 L Hp o om j (mvO m')) (W2 L o om Hp):=by
 refine ⟨fun hX=>?_⟩
 refine ACall.body [] [0,1] Tryz.func158 Tryz.ntmps158 (fun d=>?_)
 refine jz ?_
 rcases h1:Ep L i with ⟨s,j⟩|⟨e,a⟩
 rotate_left
 ·exact (Bk hX (by first|exact by unfold Gs;rw [h1];rfl|exact h1)).elim
 have hj:=Fi hl hi _ _ h1
 refine Z1 ?_;refine R.callUp (x:=pmO L j) Tryz.call156 (Cn ho hne) (by simp) Cd ((gk L i o _ (A5 (Cn ho hne)) hi hll).ok h1) ?_
 rw [D8 hne]
 refine Kg ?_;refine Z0 ?_
 refine R.storeUpT jS (Dc hm) ?_ ?_
 ·simp [or_imp,forall_and]
 refine R.fin [0,1] ?_;refine AW.upEq (U2_setm (y:=.cells 64 [A2 m.kind,.slice true 1 ([A6 s]),.slice true 2 (m.give.map Ak),.slice true 6 (m.ahead.map A4),.slice true 6 (m.back.map A4)])) ?_
 rcases h2:Bl L toW j with ⟨u,j2⟩|⟨e,a⟩
 rotate_left
 ·exact (Bk hX (by first|exact by unfold Gs;rw [h1];show (Bl L toW j).bind _=_;rw [h2];rfl|exact h2)).elim
 have hj2:=E1 hl hj.2 _ _ h2
 refine Z2 ?_;refine R.callUp (x:=pmO L j2) Tryz.call123 (Cn ho hne) (by simp) Cd ((aa L toW j o _ (A5 (Cn ho hne)) hj.2 hll).ok h2) ?_
 rw [D8 hne]
 refine R.fin [0,1] ?_
 rcases h3:Ep L j2 with ⟨t,k⟩|⟨e,a⟩
 rotate_left
 ·exact (Bk hX (by first|exact by unfold Gs;rw [h1];show (Bl L toW j).bind _=_;rw [h2];show (Ep L j2).bind _=_;rw [h3];rfl|exact h3)).elim
 refine Z2 ?_;refine R.callUp (x:=pmO L k) Tryz.call156 (Cn ho hne) (by simp) Cd ((gk L j2 o _ (A5 (Cn ho hne)) hj2.2 hll).ok h3) ?_
 rw [D8 hne]
 refine R.go ?_;refine R.fin [1,4] ?_;refine Z1 ?_;refine Vd ?_;refine Kg ?_;refine Z0 ?_
 refine R.storeUpT jS (Dc hm) ?_ ?_
 ·simp [or_imp,forall_and]
 refine R.fin [1,4] ?_;refine AW.upEq (U2_setm (y:=.cells 64 [A2 m.kind,.slice true 1 ([A6 s]),.slice true 2 ([Ak ⟨t,0⟩]),.slice true 6 (m.ahead.map A4),.slice true 6 (m.back.map A4)])) ?_;refine Z11 ?_;refine Z23 ?_
 refine R.go (h:=Q.loadUp (Dc hm)) (hr:=?_)
 refine R.go (h:=Q.indexAddr (0) (A6 s) (fun _=>rfl)) (hr:=?_)
 refine R.go ?_;refine R.call Tryz.call130 (r8 s _) ?_;refine Kg ?_;refine R.go ?_;refine R.call Tryz.call130 (r8 t _) ?_;refine Kg ?_;refine Z0 ?_
 refine R.storeUpT jS (Dc hm) ?_ ?_
 ·first|exact cj|exact X6
 rw [U2_setm]
 refine Z0 ?_
 refine R.storeUpT jS (Dc hm) ?_ ?_
 ·first|exact cj|exact X6
 rw [U2_setm]
 refine R.fin [] ?_;exact K.finN .nores (hp:=⟨⟨m.kind,[s],[⟨t,0⟩],[Bd s],[Bd t]⟩,k,by unfold Gs;rw [h1];show (Bl L toW j).bind _=_;rw [h2];show (Ep L j2).bind _=_;rw [h3];rfl,rfl,by simp only [mvO,mvC,List.map_cons,List.map_nil,A8]⟩)

theorem gy {L:List Tok} {Hp:List AObj} {o om i:Nat} {m:Mov} {c:Col} {x:AObj}:(U2 L Hp o om i x).set om (.cells 64 [A2 m.kind,.slice true 1 [A6 c.name],.slice true 2 (m.give.map Ak),.slice true 6 (m.ahead.map A4),.slice true 6 (m.back.map A4)])=U2 L Hp o om i (mvO (takeS m c.name)):=U2_setm
theorem ACg (L:List Tok) (m:Mov) (i o om:Nat) (Hp:List AObj) (hne:om≠o) (ho:Hp[o]? = some (pmO L i)) (hm:Hp[om]? = some (mvO m)) (hi:i<L.length) (hl:TokEnd L) (hll:L.length≤500000) (hb:MvLe m (2*i-1)) (h0:0<i):CP 122 [.ptr o 0,.ptr om 0] Hp (Fh L m i) (fun m' j r H'=>r=Kq∧H'=U2 L Hp o om j (mvO m')) (W2 L o om Hp):=by
 refine ⟨fun hX=>?_⟩
 have hol:=(List.getElem?_eq_some_iff.1 ho).1
 have hml:=(List.getElem?_eq_some_iff.1 hm).1
 refine ACall.body [] [0,1] Tryz.func122 Tryz.ntmps122 (fun d=>?_)
 refine dp ?_;refine R.box ?_;refine F8 ?_;refine jz ?_;refine Z17 ?_
 refine R.go (h:=Q.loadUp (Dc hm)) (hr:=?_)
 refine R.fin [2,3,7] ?_;refine Lo ?_;refine R.fin [2,3,7,8] ?_
 refine W.cond (fun ht8=>?_) (fun ht8=>?_)
 ·rcases h1:Cz L m i with ⟨m1,k⟩|⟨e,a⟩
  rotate_left
  ·exact (Bk hX (by first|exact by rw [nd ht8];rw [h1]|exact h1)).elim
  refine Z11 ?_
  refine R.callX (up':=U2 L Hp o om k (mvO m1)) (own':=[.cells 94 [.ptr o 0],.cells 155 [.ptr om 0]]) Tryz.call155 (((ry L m i o om (U2 L Hp o om i (mvO m)++[.cells 94 [.ptr o 0],.cells 155 [.ptr om 0]]) hne (A5 (Cn ho hne)) (A5 (Dc hm)) hi hl hll hb).ok h1).mono (fun r H' e=>⟨e.1,e.2.trans (by first|rw [Cv (by rw [U2_len];exact hol) (by rw [U2_len];exact hml),Gm hne]|rw [Cv hol hml])⟩)) (by first|rfl|rw [U2_len,U2_len]|rw [U2_len]) (fun h=>Fj hne E2 h) ?_
  refine Z65 ?_;exact K.finN .nores (hp:=⟨m1,k,by rw [nd ht8];rw [h1],rfl,rfl⟩)
 refine Z1 ?_;refine R.fin [2,3,7,13] ?_
 refine W.cond (fun ht13=>?_) (fun ht13=>?_)
 ·rcases h1:Ep L i with ⟨s,j⟩|⟨e,a⟩
  rotate_left
  ·exact (Bk hX (by first|exact by rw [ac ht8 ht13];rw [h1];rfl|exact h1)).elim
  have hj:=Fi hl hi _ _ h1
  refine W.drawY [0,0,2,6,15,31,63] [2] [.q 2 [] [],.s [17] (some 0) [] [],.s [18] none [0] []] (fun B=>U2 L Hp o om (if B 0=true then j else i) (mvO m)) (fun _=>[.cells 94 [.ptr o 0],.cells 155 [.ptr om 0]]) Ad (by kernel_rfl) rfl rfl (fun B=>by rw [U2_len];exact U2_len.symm) ?_
  apply Y.q
  case h1 =>
   intro B hT hF
   exact dl
  case hTF=>decide
  refine Y.callUp (r:=A6 s) (o:=o) (x0:=pmO L i) (x:=pmO L j) Tryz.call156 (fun B hB1 hB2 hB=>⟨by simp only [hB];exact Cn ho hne,(D8 hne).symm,rfl,Cd,?_⟩) ?_
  ·simp only [hB]
   exact (gk L i o _ (A5 (Cn ho hne)) hi hll).ok h1
  refine xe ?_;refine Z0 ?_
  refine R.storeUpT jS (Dc hm) ?_ ?_
  ·simp [or_imp,forall_and]
  refine F8 ?_;refine AW.upEq (Sy (m:=m) (s:=s)) ?_
  rcases h2:Dt L (takeS m s) j with ⟨m2,k⟩|⟨e,a⟩
  rotate_left
  ·exact (Bk hX (by first|exact by rw [ac ht8 ht13];rw [h1];show Dt L (takeS m s) j=_;rw [h2]|exact h2)).elim
  refine Z11 ?_
  refine R.callX (up':=U2 L Hp o om k (mvO m2)) (own':=[.cells 94 [.ptr o 0],.cells 155 [.ptr om 0]]) Tryz.call157 (((rz L (takeS m s) j o om (U2 L Hp o om j (mvO (takeS m s))++[.cells 94 [.ptr o 0],.cells 155 [.ptr om 0]]) hne (A5 (Cn ho hne)) (A5 (Dc hm)) hj.2 hl hll ((hb.mono (by omega:2*i-1≤2*j)).takeS (by omega))).ok h2).mono (fun r H' e=>⟨e.1,e.2.trans (by first|rw [Cv (by rw [U2_len];exact hol) (by rw [U2_len];exact hml),Gm hne]|rw [Cv hol hml])⟩)) (by first|rfl|rw [U2_len,U2_len]|rw [U2_len]) (fun h=>Fj hne E2 h) ?_
  refine Z65 ?_;exact K.finN .nores (hp:=⟨m2,k,by rw [ac ht8 ht13];rw [h1];show Dt L (takeS m s) j=_;rw [h2],rfl,rfl⟩)
 refine Z1 ?_;refine R.fin [2,3,7,24] ?_
 refine W.cond (fun ht24=>?_) (fun ht24=>?_)
 ·rcases h1:Gs L m i with ⟨m1,k⟩|⟨e,a⟩
  rotate_left
  ·exact (Bk hX (by first|exact by rw [nf ht8 ht13 ht24];rw [h1]|exact h1)).elim
  refine Z11 ?_
  refine R.callX (up':=U2 L Hp o om k (mvO m1)) (own':=[.cells 94 [.ptr o 0],.cells 155 [.ptr om 0]]) Tryz.call158 (((ACf L m i o om (U2 L Hp o om i (mvO m)++[.cells 94 [.ptr o 0],.cells 155 [.ptr om 0]]) hne (A5 (Cn ho hne)) (A5 (Dc hm)) hi hl hll hb).ok h1).mono (fun r H' e=>⟨e.1,e.2.trans (by first|rw [Cv (by rw [U2_len];exact hol) (by rw [U2_len];exact hml),Gm hne]|rw [Cv hol hml])⟩)) (by first|rfl|rw [U2_len,U2_len]|rw [U2_len]) (fun h=>Fj hne E2 h) ?_
  refine Z65 ?_;exact K.finN .nores (hp:=⟨m1,k,by rw [nf ht8 ht13 ht24];rw [h1],rfl,rfl⟩)
 refine Z1 ?_;refine R.fin [2,3,7,29] ?_
 refine W.cond (fun ht29=>?_) (fun ht29=>?_)
 ·rcases h1:Ep L i with ⟨s,j⟩|⟨e,a⟩
  rotate_left
  ·exact (Bk hX (by first|exact by rw [Qs ht8 ht13 ht24 ht29];rw [h1];rfl|exact h1)).elim
  have hj:=Fi hl hi _ _ h1
  refine W.drawY [0,0,2,6,15,31,63] [2] [.q 2 [] [],.s [33] (some 0) [] [],.s [34] none [0] []] (fun B=>U2 L Hp o om (if B 0=true then j else i) (mvO m)) (fun _=>[.cells 94 [.ptr o 0],.cells 155 [.ptr om 0]]) Ad (by kernel_rfl) rfl rfl (fun B=>by rw [U2_len];exact U2_len.symm) ?_
  apply Y.q
  case h1 =>
   intro B hT hF
   exact dl
  case hTF=>decide
  refine Y.callUp (r:=A6 s) (o:=o) (x0:=pmO L i) (x:=pmO L j) Tryz.call156 (fun B hB1 hB2 hB=>⟨by simp only [hB];exact Cn ho hne,(D8 hne).symm,rfl,Cd,?_⟩) ?_
  ·simp only [hB]
   exact (gk L i o _ (A5 (Cn ho hne)) hi hll).ok h1
  refine xe ?_;refine Z0 ?_
  refine R.storeUpT jS (Dc hm) ?_ ?_
  ·simp [or_imp,forall_and]
  refine F8 ?_;refine AW.upEq (Sy (m:=m) (s:=s)) ?_
  rcases h2:Bl L Gl j with ⟨u,j2⟩|⟨e,a⟩
  rotate_left
  ·exact (Bk hX (by first|exact by rw [Qs ht8 ht13 ht24 ht29];rw [h1];show (Bl L Gl j).bind _=_;rw [h2];rfl|exact h2)).elim
  have hj2:=E1 hl hj.2 _ _ h2
  refine Z2 ?_;refine R.callUp (x:=pmO L j2) Tryz.call123 (Cn ho hne) (by simp) Cd ((aa L Gl j o _ (A5 (Cn ho hne)) hj.2 hll).ok h2) ?_
  rw [D8 hne]
  refine F8 ?_
  rcases h3:Fg L 0 (Cz L) (takeS m s) j2 with ⟨m1,j3⟩|⟨e,a⟩
  rotate_left
  ·exact (Bk hX (by first|exact by rw [Qs ht8 ht13 ht24 ht29];rw [h1];show (Bl L Gl j).bind _=_;rw [h2];show (Fg L 0 (Cz L) (takeS m s) j2).bind _=_;rw [h3];rfl|exact h3)).elim
  have hj3:=M6 hl (Hq hl hll) (takeS m s) j2 ((hb.mono (by omega:2*i-1≤2*j2-1)).takeS (by omega)) (by omega) hj2.2 _ _ h3
  refine Z2 ?_;refine R.makeFunc ?_
  refine R.callX (up':=U2 L Hp o om j3 (mvO m1)) (own':=[.cells 94 [.ptr o 0],.cells 155 [.ptr om 0]]) Tryz.call159 (((w7 L (0) (takeS m s) j2 o om 160 [.ptr (oid Hp.length 0) 0,.ptr (oid Hp.length 1) 0] (Cz L) (U2 L Hp o om j2 (mvO (takeS m s))++[.cells 94 [.ptr o 0],.cells 155 [.ptr om 0]]) hne (A5 (Cn ho hne)) (A5 (Dc hm)) (by omega) hj2.2 hl hll ((hb.mono (by omega:2*i-1≤2*j2-1)).takeS (by omega)) Tryz.call160 (gw (z:=pmO L j2) (z':=mvO (takeS m s)) hne (A5 (Cn ho hne)) (A5 (Dc hm)) (gx rfl) (gx rfl) (Gj hol) (Gj hml) (Gj hol) (Gj hml) hl hll) (Hq hl hll)).ok h3).mono (fun r H' e=>⟨e.1,e.2.trans (by first|rw [Cv (by rw [U2_len];exact hol) (by rw [U2_len];exact hml),Gm hne]|rw [Cv hol hml])⟩)) (by first|rfl|rw [U2_len,U2_len]|rw [U2_len]) (fun h=>Fj hne E2 h) ?_
  refine F8 ?_
  rcases h4:Dt L m1 j3 with ⟨m2,k⟩|⟨e,a⟩
  rotate_left
  ·exact (Bk hX (by first|exact by rw [Qs ht8 ht13 ht24 ht29];rw [h1];show (Bl L Gl j).bind _=_;rw [h2];show (Fg L 0 (Cz L) (takeS m s) j2).bind _=_;rw [h3];show Dt L m1 j3=_;rw [h4]|exact h4)).elim
  refine Z11 ?_
  refine R.callX (up':=U2 L Hp o om k (mvO m2)) (own':=[.cells 94 [.ptr o 0],.cells 155 [.ptr om 0]]) Tryz.call157 (((rz L m1 j3 o om (U2 L Hp o om j3 (mvO m1)++[.cells 94 [.ptr o 0],.cells 155 [.ptr om 0]]) hne (A5 (Cn ho hne)) (A5 (Dc hm)) hj3.2.1 hl hll hj3.2.2).ok h4).mono (fun r H' e=>⟨e.1,e.2.trans (by first|rw [Cv (by rw [U2_len];exact hol) (by rw [U2_len];exact hml),Gm hne]|rw [Cv hol hml])⟩)) (by first|rfl|rw [U2_len,U2_len]|rw [U2_len]) (fun h=>Fj hne E2 h) ?_
  refine Z65 ?_;exact K.finN .nores (hp:=⟨m2,k,by rw [Qs ht8 ht13 ht24 ht29];rw [h1];show (Bl L Gl j).bind _=_;rw [h2];show (Fg L 0 (Cz L) (takeS m s) j2).bind _=_;rw [h3];show Dt L m1 j3=_;rw [h4],rfl,rfl⟩)
 refine Z1 ?_;refine R.fin [2,3,7,45] ?_
 refine W.cond (fun ht45=>?_) (fun ht45=>?_)
 ·rcases h1:Fg L 0 (M4 L) m i with ⟨m1,j⟩|⟨e,a⟩
  rotate_left
  ·exact (Bk hX (by first|exact by rw [Qt ht8 ht13 ht24 ht29 ht45];rw [h1];rfl|exact h1)).elim
  have hj:=M6 hl (Qr hl) m i hb h0 hi _ _ h1
  refine Z2 ?_;refine R.makeFunc ?_
  refine R.callX (up':=U2 L Hp o om j (mvO m1)) (own':=[.cells 94 [.ptr o 0],.cells 155 [.ptr om 0]]) Tryz.call159 (((w7 L (0) m i o om 161 [.ptr (oid Hp.length 1) 0,.ptr (oid Hp.length 0) 0] (M4 L) (U2 L Hp o om i (mvO m)++[.cells 94 [.ptr o 0],.cells 155 [.ptr om 0]]) hne (A5 (Cn ho hne)) (A5 (Dc hm)) h0 hi hl hll hb Tryz.call161 (gu (z:=pmO L i) (z':=mvO m) hne (A5 (Cn ho hne)) (A5 (Dc hm)) (gx rfl) (gx rfl) (Gj hol) (Gj hml) (Gj hol) (Gj hml) hl hll) (Qr hl)).ok h1).mono (fun r H' e=>⟨e.1,e.2.trans (by first|rw [Cv (by rw [U2_len];exact hol) (by rw [U2_len];exact hml),Gm hne]|rw [Cv hol hml])⟩)) (by first|rfl|rw [U2_len,U2_len]|rw [U2_len]) (fun h=>Fj hne E2 h) ?_
  refine F8 ?_
  rcases h2:Bl L Gl j with ⟨u,j2⟩|⟨e,a⟩
  rotate_left
  ·exact (Bk hX (by first|exact by rw [Qt ht8 ht13 ht24 ht29 ht45];rw [h1];show (Bl L Gl j).bind _=_;rw [h2];rfl|exact h2)).elim
  have hj2:=E1 hl hj.2.1 _ _ h2
  have hj2e:=Im h2
  refine Z2 ?_;refine R.callUp (x:=pmO L j2) Tryz.call123 (Cn ho hne) (by simp) Cd ((aa L Gl j o _ (A5 (Cn ho hne)) hj.2.1 hll).ok h2) ?_
  rw [D8 hne]
  refine F8 ?_
  rcases h3:Cz L m1 j2 with ⟨m2,j3⟩|⟨e,a⟩
  rotate_left
  ·exact (Bk hX (by first|exact by rw [Qt ht8 ht13 ht24 ht29 ht45];rw [h1];show (Bl L Gl j).bind _=_;rw [h2];show (Cz L m1 j2).bind _=_;rw [h3];rfl|exact h3)).elim
  have hj3:=Hq hl hll m1 j2 (hj.2.2.mono (by omega)) (by omega) hj2.2 _ _ h3
  refine Z1 ?_
  refine R.callX (up':=U2 L Hp o om j3 (mvO m2)) (own':=[.cells 94 [.ptr o 0],.cells 155 [.ptr om 0]]) Tryz.call155 (((ry L m1 j2 o om (U2 L Hp o om j2 (mvO m1)++[.cells 94 [.ptr o 0],.cells 155 [.ptr om 0]]) hne (A5 (Cn ho hne)) (A5 (Dc hm)) hj2.2 hl hll (hj.2.2.mono (by omega))).ok h3).mono (fun r H' e=>⟨e.1,e.2.trans (by first|rw [Cv (by rw [U2_len];exact hol) (by rw [U2_len];exact hml),Gm hne]|rw [Cv hol hml])⟩)) (by first|rfl|rw [U2_len,U2_len]|rw [U2_len]) (fun h=>Fj hne E2 h) ?_
  refine F8 ?_
  rcases h4:Dt L m2 j3 with ⟨m3,k⟩|⟨e,a⟩
  rotate_left
  ·exact (Bk hX (by first|exact by rw [Qt ht8 ht13 ht24 ht29 ht45];rw [h1];show (Bl L Gl j).bind _=_;rw [h2];show (Cz L m1 j2).bind _=_;rw [h3];show Dt L m2 j3=_;rw [h4]|exact h4)).elim
  refine Z11 ?_
  refine R.callX (up':=U2 L Hp o om k (mvO m3)) (own':=[.cells 94 [.ptr o 0],.cells 155 [.ptr om 0]]) Tryz.call157 (((rz L m2 j3 o om (U2 L Hp o om j3 (mvO m2)++[.cells 94 [.ptr o 0],.cells 155 [.ptr om 0]]) hne (A5 (Cn ho hne)) (A5 (Dc hm)) hj3.2.1 hl hll hj3.2.2).ok h4).mono (fun r H' e=>⟨e.1,e.2.trans (by first|rw [Cv (by rw [U2_len];exact hol) (by rw [U2_len];exact hml),Gm hne]|rw [Cv hol hml])⟩)) (by first|rfl|rw [U2_len,U2_len]|rw [U2_len]) (fun h=>Fj hne E2 h) ?_
  refine Z65 ?_;exact K.finN .nores (hp:=⟨m3,k,by rw [Qt ht8 ht13 ht24 ht29 ht45];rw [h1];show (Bl L Gl j).bind _=_;rw [h2];show (Cz L m1 j2).bind _=_;rw [h3];show Dt L m2 j3=_;rw [h4],rfl,rfl⟩)
 refine Z1 ?_;refine R.fin [2,3,58] ?_
 refine W.cond (fun ht58=>?_) (fun ht58=>?_)
 ·rcases h1:Cz L m i with ⟨m1,j⟩|⟨e,a⟩
  rotate_left
  ·exact (Bk hX (by first|exact by rw [ae ht8 ht13 ht24 ht29 ht45 ht58];rw [h1];rfl|exact h1)).elim
  have hj:=Hq hl hll m i hb h0 hi _ _ h1
  refine Z1 ?_
  refine R.callX (up':=U2 L Hp o om j (mvO m1)) (own':=[.cells 94 [.ptr o 0],.cells 155 [.ptr om 0]]) Tryz.call155 (((ry L m i o om (U2 L Hp o om i (mvO m)++[.cells 94 [.ptr o 0],.cells 155 [.ptr om 0]]) hne (A5 (Cn ho hne)) (A5 (Dc hm)) hi hl hll hb).ok h1).mono (fun r H' e=>⟨e.1,e.2.trans (by first|rw [Cv (by rw [U2_len];exact hol) (by rw [U2_len];exact hml),Gm hne]|rw [Cv hol hml])⟩)) (by first|rfl|rw [U2_len,U2_len]|rw [U2_len]) (fun h=>Fj hne E2 h) ?_
  refine F8 ?_;refine W.drawY [0,0,2,6,14,30,62,126,254,511,1023,2047] [] [.q 8 [] [],.s [71] none [] []] (fun _=>U2 L Hp o om j (mvO m1)) (fun _=>[.cells 94 [.ptr o 0],.cells 155 [.ptr om 0]]) Ad (by kernel_rfl) rfl rfl (fun B=>rfl) ?_
  apply Y.q
  case h1 =>
   intro B hT hF
   refine Z81 ?_
   refine D.go (h:=Q.loadUp (Dc hm)) (hr:=?_)
   refine D.go (h:=Q.indexAddr (0) (Ak (m1.give.getD 0 ⟨[],0⟩)) (fun _=>nb h1)) (hr:=?_)
   exact dl
  case hTF=>decide
  refine Y.buildSlice jU Tryz.sizeOf9 Tryz.zeroValue9 ?_;refine Y.tail (tn:=[]) (U:=U2 L Hp o om j (mvO m1)) ?_;refine Z0 ?_
  refine R.storeUpT jS (Dc hm) ?_ ?_
  ·simp [or_imp,forall_and]
  refine F8 ?_;refine AW.upEq (gy (m:=m1) (c:=m1.give.getD 0 ⟨[],0⟩)) ?_
  rcases h2:Dt L (takeS m1 (m1.give.getD 0 ⟨[],0⟩).name) j with ⟨m2,k⟩|⟨e,a⟩
  rotate_left
  ·exact (Bk hX (by first|exact by rw [ae ht8 ht13 ht24 ht29 ht45 ht58];rw [h1];show Dt L (takeS m1 (m1.give.getD 0 ⟨[],0⟩).name) j=_;rw [h2]|exact h2)).elim
  refine Z11 ?_
  refine R.callX (up':=U2 L Hp o om k (mvO m2)) (own':=[.cells 94 [.ptr o 0],.cells 155 [.ptr om 0]]) Tryz.call157 (((rz L (takeS m1 (m1.give.getD 0 ⟨[],0⟩).name) j o om (U2 L Hp o om j (mvO (takeS m1 (m1.give.getD 0 ⟨[],0⟩).name))++[.cells 94 [.ptr o 0],.cells 155 [.ptr om 0]]) hne (A5 (Cn ho hne)) (A5 (Dc hm)) hj.2.1 hl hll (hj.2.2.takeS (by omega))).ok h2).mono (fun r H' e=>⟨e.1,e.2.trans (by first|rw [Cv (by rw [U2_len];exact hol) (by rw [U2_len];exact hml),Gm hne]|rw [Cv hol hml])⟩)) (by first|rfl|rw [U2_len,U2_len]|rw [U2_len]) (fun h=>Fj hne E2 h) ?_
  refine Z65 ?_;exact K.finN .nores (hp:=⟨m2,k,by rw [ae ht8 ht13 ht24 ht29 ht45 ht58];rw [h1];show Dt L (takeS m1 (m1.give.getD 0 ⟨[],0⟩).name) j=_;rw [h2],rfl,rfl⟩)
 refine AW.skip ?_;refine K.blN ?_;exact K.finN .nores (hp:=⟨m,i,w8 ht8 ht13 ht24 ht29 ht45 ht58,rfl,rfl⟩)

def AAa:Str:=[32,97,100,100,32,100,114,111,112,32,114,101,110,97,109,101,32,115,112,108,105,116,32,109,101,114,103,101,32,114,101,116,121,112,101]
theorem gz:Je AAa [32]=migWords:=by kernel_rfl
theorem ACh (k:Int) (Hp:List AObj):AFun Tryz.prog 154 [A2 k] Hp (A6 (Cj k)):=by
 refine ACall.body [.tmp 2] [0] Tryz.func154 Tryz.ntmps154 (fun d=>?_)
 refine Vc ?_;refine Tm ?_;refine R.fin [0,8] ?_
 refine W.cond (fun ht8=>?_) (fun ht8=>?_)
 ·have hm:Cj k=[]:=if_pos ht8
  exact ji
 have hm:Cj k=migWords.getD k.toNat []:=if_neg (by rw [ht8];simp)
 refine du ?_;refine R.call Tryz.call100 (ui AAa [32] (by decide) (by decide) _) ?_
 rw [gz]
 refine R.go ?_
 have hk:1≤k∧k≤6:=by simp at ht8;omega
 have hget:(migWords.map A6)[k.toNat]? = some (A6 (migWords.getD k.toNat [])):=by
  have hlt:k.toNat<migWords.length:=by show k.toNat<7;omega
  rw [List.getElem?_map,List.getElem?_eq_getElem hlt,List.getD_eq_getElem?_getD,List.getElem?_eq_getElem hlt]
  rfl
 refine R.go (h:=Q.indexAddr (k.toNat) (A6 (migWords.getD k.toNat [])) (fun _=>hget)) (hr:=?_)
 exact xq

theorem i6 {s:Str} {x:Nat} (h:∀j:Nat,j<x→(Cj ((j:Int)+1)==s)=false) (hx:x<6) (he:(Cj ((x:Int)+1)==s)=true):Et s=(x:Int)+1:=by
 have a:∀j:Nat,j<x→∀k:Int,k=(j:Int)+1→(Cj k==s)=false:=fun j hj k e=>by rw [e];exact h j hj
 have b:∀k:Int,k=(x:Int)+1→(Cj k==s)=true:=fun k e=>by rw [e];exact he
 have h6:x=0∨x=1∨x=2∨x=3∨x=4∨x=5:=by omega
 unfold Et
 rcases h6 with rfl|rfl|rfl|rfl|rfl|rfl
 ·rw [if_pos (b 1 rfl)];rfl
 ·rw [if_neg (by rw [a 0 (by omega) 1 rfl];simp),if_pos (b 2 rfl)];rfl
 ·rw [if_neg (by rw [a 0 (by omega) 1 rfl];simp),if_neg (by rw [a 1 (by omega) 2 rfl];simp),if_pos (b 3 rfl)];rfl
 ·rw [if_neg (by rw [a 0 (by omega) 1 rfl];simp),if_neg (by rw [a 1 (by omega) 2 rfl];simp),if_neg (by rw [a 2 (by omega) 3 rfl];simp),if_pos (b 4 rfl)];rfl
 ·rw [if_neg (by rw [a 0 (by omega) 1 rfl];simp),if_neg (by rw [a 1 (by omega) 2 rfl];simp),if_neg (by rw [a 2 (by omega) 3 rfl];simp),if_neg (by rw [a 3 (by omega) 4 rfl];simp),if_pos (b 5 rfl)];rfl
 rw [if_neg (by rw [a 0 (by omega) 1 rfl];simp),if_neg (by rw [a 1 (by omega) 2 rfl];simp),if_neg (by rw [a 2 (by omega) 3 rfl];simp),if_neg (by rw [a 3 (by omega) 4 rfl];simp),if_neg (by rw [a 4 (by omega) 5 rfl];simp),if_pos (b 6 rfl)];rfl
theorem X7 {s:Str} {x:Nat} (h:∀j:Nat,j<x→(Cj ((j:Int)+1)==s)=false) (he:(Cj ((x:Int)+1)==s)=false):∀j:Nat,j<x+1→(Cj ((j:Int)+1)==s)=false:=fun j hj=>by
 rcases Nat.lt_or_ge j x with h1|h1
 ·exact h j h1
 rw [show j=x by omega];exact he
theorem i7 {s:Str} {x:Nat} (h:∀j:Nat,j<x→(Cj ((j:Int)+1)==s)=false) (hx:6≤x):Et s=0:=by
 have a:∀j:Nat,j<6→∀k:Int,k=(j:Int)+1→(Cj k==s)=false:=fun j hj k e=>by rw [e];exact h j (by omega)
 unfold Et
 rw [if_neg (by rw [a 0 (by omega) 1 rfl];simp),if_neg (by rw [a 1 (by omega) 2 rfl];simp),if_neg (by rw [a 2 (by omega) 3 rfl];simp),if_neg (by rw [a 3 (by omega) 4 rfl];simp),if_neg (by rw [a 4 (by omega) 5 rfl];simp),if_neg (by rw [a 5 (by omega) 6 rfl];simp)]
theorem ACi (s:Str) (Hp:List AObj):AFun Tryz.prog 121 [A6 s] Hp (A2 (Et s)):=by
 refine ACall.body [.tmp 2] [0] Tryz.func121 Tryz.ntmps121 (fun d=>?_)
 refine Z40 ?_;refine Tk ?_
 refine AW.loopC (α:=Nat) (fun x=>⟨13,A3 0 (A6 s) (A3 3 (A2 ((x:Nat)+1)) (fun _=>.any)),Hp,[],[],none⟩) (fun x=>∀j:Nat,j<x→(Cj ((j:Int)+1)==s)=false) (fun x=>6-x) (0) (fun j h=>by omega) (StLe.refl _) rfl (fun x hx=>?_)
 refine Z8 ?_;refine R.fin [0,3,5] ?_
 refine W.cond (fun ht5=>?_) (fun ht5=>?_)
 ·have hx6:x<6:=by simp at ht5;omega
  refine Z43 ?_;refine Z2 ?_;refine R.call Tryz.call154 (ACh _ _) ?_;refine Z0 ?_;refine R.fin [0,3,11] ?_
  refine W.cond (fun ht11=>?_) (fun ht11=>?_)
  ·refine Y1 ?_;refine Z34 ?_;exact K.fin (V.one V.tmp) ⟨by rw [i6 hx hx6 ht11],rfl⟩
  refine Xu ?_
  refine K.lpN (x+1) (X7 hx ht11) (by omega) (StCut.of_eq rfl)
 have hx6:6≤x:=by simp at ht5;omega
 refine Vb ?_;exact K.fin (V.one V.tmp) ⟨by rw [i7 hx hx6],rfl⟩

theorem w9 {L:List Tok} {Hp own:List AObj} {o i n:Nat} {x:AObj} (h1:o<Hp.length):U2 L (Hp++own) o (oid Hp.length n) i x=Hp.set o (pmO L i)++own.set n x:=by
 unfold U2 oid
 rw [List.set_append_left _ _ h1,List.set_append,if_neg (by simp),List.length_set,Nat.add_sub_cancel_left]
theorem ng {L:List Tok} {Hp:List AObj} {o i j n:Nat} (h:∀z∈Hp.set o (pmO L i),ObjLow n z):∀z∈Hp.set o (pmO L j),ObjLow n z:=by
 intro z hz
 rw [show Hp.set o (pmO L j)=(Hp.set o (pmO L i)).set o (pmO L j) by rw [List.set_set]] at hz
 rcases List.mem_or_eq_of_mem_set hz with hz|rfl
 ·exact h z hz
 exact Cd
theorem c90 (L:List Tok) (i o:Nat) (Hp:List AObj) (ho:Hp[o]? = some (pmO L i)) (hi:i<L.length) (hl:TokEnd L) (hll:L.length≤500000):CP 90 [.ptr o 0] Hp (Jz L i) (fun m j r H'=>r=E3 m∧H'=Hp.set o (pmO L j)) (W1 L o Hp):=by
 refine ⟨fun hX=>?_⟩
 have hol:=(List.getElem?_eq_some_iff.1 ho).1
 have hne:oid Hp.length 2≠o:=by unfold oid;omega
 refine ACall.body [.cell 2 64] [0] Tryz.func90 Tryz.ntmps90 (fun d=>?_)
 refine Z63 ?_;refine u7 ?_;refine V4 ?_;refine Z1 ?_;refine R.call Tryz.call121 (ACi (A7 L i).text _) ?_;refine R.build (places:=#[(0,1),(1,1),(2,1),(3,1),(4,1)]) jU (fun w=>by simp) jZ ?_;refine Z20 ?_;refine R.fin [0,2,3,4] ?_;refine Z68 ?_;refine R.nilCell 2 1 1 ?_;refine R.nilCell 2 2 2 ?_;refine R.nilCell 2 3 6 ?_;refine R.nilCell 2 4 6 ?_;refine Z0 ?_;refine Z27 ?_;refine Z66 ?_;refine R.fin [0,2,4,18] ?_
 refine W.cond (fun ht18=>?_) (fun ht18=>?_)
 ·have e:Jz L i=.bad 8 (A7 L i).at_:=if_pos ht18
  exact jy
 have e0:Jz L i=(Fh L (⟨Et (A7 L i).text,[],[],[],[]⟩:Mov) (i+1)).bind fun m j=>(Bl L [59] j).bind fun _ j=>.ok m j:=if_neg (by rw [ht18];simp)
 have hi1:i+1<L.length:=hl.step hi (by simp only [Bool.or_eq_false_iff,bne_eq_false_iff_eq] at ht18;rw [ht18.1];decide)
 refine Z70 ?_
 refine R.go (h:=Q.loadUp ho) (hr:=?_)
 refine Z23 ?_
 refine R.storeUp jS ho ?_ ?_
 ·simp
 refine R.fin [0,2,4] ?_
 rcases hR:Fh L (⟨Et (A7 L i).text,[],[],[],[]⟩:Mov) (i+1) with ⟨m1,k⟩|⟨e,a⟩
 rotate_left
 ·exact (Bk hX (by first|exact by rw [e0];rw [hR];rfl|exact hR)).elim
 have hk:=cf hl hll (⟨Et (A7 L i).text,[],[],[],[]⟩:Mov) (i+1) ⟨Nat.zero_le _,Nat.zero_le _,Nat.zero_le _,Nat.zero_le _⟩ (by omega) hi1 _ _ hR
 refine Z2 ?_
 refine R.callX (up':=Hp.set o (pmO L k)) (own':=[.cells 64 [A2 0,.nil,.nil,.nil,.nil],.cells 125 [.v (.int .i64 (A7 L i).kind),.v (sv (A7 L i).text),.v (.int .i64 ((A7 L i).at_:Int))],mvO m1]) Tryz.call122 (((ACg L (⟨Et (A7 L i).text,[],[],[],[]⟩:Mov) (i+1) o (oid Hp.length 2) (Hp.set o (pmO L (i+1))++[.cells 64 [A2 0,.nil,.nil,.nil,.nil],.cells 125 [.v (.int .i64 (A7 L i).kind),.v (sv (A7 L i).text),.v (.int .i64 ((A7 L i).at_:Int))],mvO (⟨Et (A7 L i).text,[],[],[],[]⟩:Mov)]) hne (by rw [List.getElem?_append_left (by simpa using hol)];exact getset ho) (by unfold oid;rw [List.getElem?_append_right (by simp)];simp) hi1 hl hll ⟨Nat.zero_le _,Nat.zero_le _,Nat.zero_le _,Nat.zero_le _⟩ (by omega)).ok hR).mono (fun r H' e=>⟨e.1,e.2.trans (by rw [show oid Hp.length 2=oid (Hp.set o (pmO L (i+1))).length 2 by simp];rw [w9 (by simpa using hol),List.set_set];rfl)⟩)) (by simp) (fun h=>by simpa using ng h) ?_
 refine R.fin [0,2,4] ?_
 rcases hW:Bl L [59] k with ⟨u,j2⟩|⟨e,a⟩
 rotate_left
 ·exact (Bk hX (by first|exact by rw [e0];rw [hR];show (Bl L [59] k).bind _=_;rw [hW];rfl|exact hW)).elim
 refine Z2 ?_;refine R.callUp (x:=pmO L j2) Tryz.call123 (getset ho) (by simp) Cd ((aa L [59] k o _ (A5 (getset ho)) hk.2.1 hll).ok hW) ?_
 rw [List.set_set]
 refine R.fin [2,4] ?_;refine Z2 ?_;refine Z13 ?_;exact K.fin (V.one (V.cellN jA jS)) (hp:=⟨m1,j2,by rw [e0];rw [hR];show (Bl L [59] k).bind _=_;rw [hW];rfl,rfl,rfl⟩) (hlow:=Wn)

/-- What mig.parser.moves comes to: the moves, or none and the fault. -/
def Lf (L:List Tok):List Mov×Int×Int:=match Gi L with
 | .ok l _=>(l,0,0)
 | .bad e a=>([],e,a)
abbrev Uh (L:List Tok):AV:=.tup [Cp (Lf L).1,.agg [A2 (Lf L).2.1,A2 (Lf L).2.2]]
theorem s6 {fc:Func} {r0 crest:Code} (hf:Tryz.prog.funcs[87]? = some fc) (hb:fc.body=some (.seq r0 crest)) (d a b:Nat) (H:List AObj):AW Tryz.prog (d+1) crest ⟨8,A3 2 (.v .nilIface) (A3 3 (.v .nilIface) (Go.SX.argsF [.ptr a 0,.ptr b 0])),H,[],[],none⟩ (fun e s2=>(e=.normal∨e=.ret)∧s2.defs=[]∧s2.up=H):=by
 have e:=Tryz.func87.symm.trans hf
 injection e with e
 subst e
 injection hb with hb
 injection hb with h1 h2
 subst h2
 refine AW.keep [0,1,2] (by simp only [go_sem,↓reduceIte,Nat.reduceEqDiff,Nat.reduceAdd]<;>rfl) ?_
 refine Z2 ?_;refine R.neqNil0 jU ?_;refine R.fin [0,1,2,5] ?_
 refine W.cond (fun ht5=>?_) (fun ht5=>?_)
 ·cases ht5
 refine AW.skip ?_;exact ⟨.inl rfl,rfl,rfl⟩

/-- Where the loop of moves stands. -/
structure MovAt (L:List Tok) (x:List Mov×Nat):Prop where
 lt:x.2<L.length
 le:x.1.length≤8
 at_:Gi L=Il L (9-x.1.length) x.1 x.2
theorem s7 {L:List Tok} (hl:TokEnd L) (hll:L.length≤500000) {i:Nat} (hi:i<L.length) {m:Mov} {j:Nat} (h:Jz L i=.ok m j):i<j∧j<L.length:=by
 unfold Jz at h
 split at h
 ·cases h
 rename_i h0
 have hi1:i+1<L.length:=hl.step hi (by
  simp only [Bool.or_eq_true,not_or,Bool.not_eq_true,bne_eq_false_iff_eq] at h0
  rw [h0.1];decide)
 obtain ⟨m1,k,h1,h2⟩:=PR.bind_ok h
 obtain ⟨u,j2,h3,h4⟩:=PR.bind_ok h2
 injection h4 with h5 h6
 subst h6
 obtain ⟨a1,a2,_⟩:=cf hl hll _ (i+1) ⟨Nat.zero_le _,Nat.zero_le _,Nat.zero_le _,Nat.zero_le _⟩ (by omega) hi1 _ _ h1
 obtain ⟨b1,b2⟩:=E1 hl a2 _ _ h3
 exact ⟨by omega,b2⟩
theorem K1 {L:List Tok} {l:List Mov} {i:Nat} (hl:l.length≤8):Il L (9-l.length) l i=if (A7 L i).kind != 0 then (if (l.length:Int)==8 then Sw L i 3 else (Jz L i).bind fun m j=>Il L (8-l.length) (l++[m]) j) else .ok l i:=by
 rw [show 9-l.length=(8-l.length)+1 by omega,Il]
theorem MovAt.out {L:List Tok} {x:List Mov×Nat} (h:MovAt L x) (hk:((A7 L x.2).kind != 0)=false):Gi L=.ok x.1 x.2:=by
 rw [h.at_,K1 h.le,if_neg (by rw [hk];simp)]
theorem MovAt.long {L:List Tok} {x:List Mov×Nat} (h:MovAt L x) (hk:((A7 L x.2).kind != 0)=true) (h8:((x.1.length:Int)==8)=true):Gi L=.bad 3 (A7 L x.2).at_:=by
 rw [h.at_,K1 h.le,if_pos hk,if_pos h8];rfl
theorem MovAt.step {L:List Tok} {x:List Mov×Nat} (h:MovAt L x) (hk:((A7 L x.2).kind != 0)=true) (h8:((x.1.length:Int)==8)=false):Gi L=(Jz L x.2).bind fun m j=>Il L (8-x.1.length) (x.1++[m]) j:=by
 rw [h.at_,K1 h.le,if_pos hk,if_neg (by rw [h8];simp)]
theorem MovAt.bad {L:List Tok} {x:List Mov×Nat} (h:MovAt L x) (hk:((A7 L x.2).kind != 0)=true) (h8:((x.1.length:Int)==8)=false) {e a:Int} (hM:Jz L x.2=.bad e a):Gi L=.bad e a:=by
 rw [h.step hk h8,hM];rfl
theorem MovAt.on {L:List Tok} (hl:TokEnd L) (hll:L.length≤500000) {x:List Mov×Nat} (h:MovAt L x) (hk:((A7 L x.2).kind != 0)=true) (h8:((x.1.length:Int)==8)=false) {m:Mov} {j:Nat} (hM:Jz L x.2=.ok m j):MovAt L (x.1++[m],j)∧x.2<j:=by
 obtain ⟨a1,a2⟩:=s7 hl hll h.lt hM
 have h1:x.1.length≤7:=by
  have:=h.le
  simp only [beq_eq_false_iff_ne,ne_eq] at h8
  omega
 refine ⟨⟨a2,by show (x.1++[m]).length≤8;simp;omega,?_⟩,a1⟩
 rw [h.step hk h8,hM]
 show Il L (8-x.1.length) (x.1++[m]) j=Il L (9-(x.1++[m]).length) (x.1++[m]) j
 rw [show 9-(x.1++[m]).length=8-x.1.length by rw [List.length_append,List.length_singleton];omega]
theorem i8 {L:List Tok} {l:List Mov} {i:Nat} (h:Gi L=.ok l i):Uh L=.tup [Cp l,.agg [A2 0,A2 0]]:=by unfold Uh Lf;rw [h]
theorem s8 {fn fc:Func} {x0 r1 y r0 crest:Code} (hf:Tryz.prog.funcs[62]? = some fn) (hb:fn.body=some (.seq x0 (.seq r1 y))) (hf2:Tryz.prog.funcs[87]? = some fc) (hb2:fc.body=some (.seq r0 crest)) (L:List Tok) (o:Nat) (Hp:List AObj) (ho:Hp[o]? = some (pmO L 0)) (hl:TokEnd L) (hll:L.length≤500000) (hX:∃l i,Gi L=.ok l i) (d:Nat):
  AW Tryz.prog (d+1) y ⟨21,A3 0 (.ptr o 0) (A3 2 (.ptr (oid Hp.length 0) 0) (A3 3 (.ptr (oid Hp.length 1) 0) (A3 4 (.fn (.func 87) [] [.ptr (oid Hp.length 0) 0,.ptr (oid Hp.length 1) 0]) fun _=>.any))),Hp,[.cells 23 [.nil],.cells 60 [A2 0,A2 0]],[],none⟩ (KG Tryz.prog crest 8 3 2 [.ptr (oid Hp.length 0) 0,.ptr (oid Hp.length 1) 0] [.cell 2 23,.cell 3 60] Hp.length (fun r H'=>r=Uh L∧∃i,H'=Hp.set o (pmO L i))):=by
 have e:=Tryz.func62.symm.trans hf
 injection e with e
 subst e
 injection hb with hb
 injection hb with h1 h2
 injection h2 with h2 h3
 subst h3
 refine AW.keep [0,2,3] (by simp only [go_sem,↓reduceIte,Nat.reduceEqDiff,Nat.reduceAdd]<;>rfl) ?_
 refine AW.upEq (Ek ho).symm ?_;refine W.seq ?_
 refine AW.loopC (α:=List Mov×Nat) (fun x=>⟨21,A3 0 (.ptr o 0) (A3 2 (.ptr (oid Hp.length 0) 0) (A3 3 (.ptr (oid Hp.length 1) 0) (fun _=>.any))),Hp.set o (pmO L x.2),[.cells 23 [.slice true 5 (x.1.map E3)],.cells 60 [A2 0,A2 0]],[],none⟩) (fun x=>MovAt L x) (fun x=>L.length-x.2) (([],0)) ⟨hl.pos,by decide,rfl⟩ (StLe.nilCell (own:=[.cells 23 [.nil],.cells 60 [A2 0,A2 0]]) (n:=0) (j0:=0) (k:=5) (t:=23) (cs:=[.nil]) rfl rfl) rfl (fun x hx=>?_)
 refine Z31 ?_;refine R.call Tryz.call88 (c88 L x.2 o _ (A5 (getset ho)) hx.lt) ?_;refine Z0 ?_;refine R.fin [0,2,3,8] ?_
 refine W.cond (fun ht8=>?_) (fun ht8=>?_)
 ·have hk:((A7 L x.2).kind != 0)=true:=ht8
  refine Z5 ?_;refine Fq ?_;refine Z35 ?_;refine R.fin [0,2,3,11] ?_
  refine W.cond (fun ht11=>?_) (fun ht11=>?_)
  ·have h8:((x.1.length:Int)==8)=true:=by rw [List.length_map] at ht11;exact ht11
   exact (Bk hX (hx.long hk h8)).elim
  have h8:((x.1.length:Int)==8)=false:=by rw [List.length_map] at ht11;exact ht11
  refine Z5 ?_
  rcases hM:Jz L x.2 with ⟨m,j⟩|⟨e,a⟩
  rotate_left
  ·exact (Bk hX (by first|exact hx.bad hk h8 hM|exact hM)).elim
  have hon:=hx.on hl hll hk h8 hM
  refine W.drawY0 [0,0,2,6,15,31] [0,2] [.s [14] (some 0) [] [],.q 1 [] [1],.s [16] (some 1) [] [],.q 1 [1] []] (fun B=>Hp.set o (pmO L (if B 1=true then j else x.2))) (fun B=>if B 0=true then [.cells 23 [.slice false 5 (x.1.map E3)],.cells 60 [A2 0,A2 0]] else [.cells 23 [.slice true 5 (x.1.map E3)],.cells 60 [A2 0,A2 0]]) Ad (by kernel_rfl) rfl rfl (fun B=>by simp) ?_
  refine Y.loadOwnT (u:=Hp.length) (n:=0) (t':=23) (cs:=[.slice true 5 (x.1.map E3)]) (cs':=[.slice false 5 (x.1.map E3)]) Tryz.isAgg23 (fun B hB=>⟨by simp,by simp only [hB];rfl,by simp only [hB];rfl,rfl⟩) ?_
  apply Y.q
  case h1 =>
   intro B hT hF
   exact Z91
  case hTF=>decide
  refine Y.callUp (r:=E3 m) (o:=o) (x0:=pmO L x.2) (x:=pmO L j) Tryz.call90 (fun B hB1 hB2 hB=>⟨by simp only [hB];exact getset ho,by simp only [hB];exact (List.set_set ..).symm,rfl,Cd,?_⟩) ?_
  ·simp only [hB]
   exact ((c90 L x.2 o _ (A5 (getset ho)) hx.lt hl hll).ok hM)
  apply Y.q
  case h1 =>
   intro B hT hF
   exact Z50
  case hTF=>decide
  refine Y.tail (tn:=[0,2]) (U:=Hp.set o (pmO L j)) (O:=[.cells 23 [.slice false 5 (x.1.map E3)],.cells 60 [A2 0,A2 0]]) ?_
  refine R.append jU Tryz.type64 ?_ ?_ ?_
  ·simp [Tryz.t64];have:=hx.le;omega
  ·simp [Tryz.t64];have:=hx.le;omega
  refine R.storeOwnT jS ?_;refine R.fin [0,2,3] ?_;refine K.blN ?_
  refine K.lpN (x.1++[m],j) hon.1 (by have:=hx.lt;have:=hon.2;show L.length-j<L.length-x.2;omega) (StCut.of_eq (by simp [List.map_append,show Tryz.t64.size=5 from rfl]))
 have hk:((A7 L x.2).kind != 0)=false:=ht8
 have e:=hx.out hk
 refine Z47 ?_;refine Z2 ?_;refine y9 ?_;refine ja ?_;refine AW.ret ?_;exact KG.fin .ret (V.two (V.cell Tryz.isAgg23) (V.cellN Tryz.isAgg60 Tryz.sizeOf60)) (fun d=>s6 hf2 hb2 d _ _ _) ⟨(i8 e).symm,x.2,rfl⟩ (hlow:=by simpa using (Jt (n:=Hp.length) (k:=5) (o:=false) (l:=x.1)))

theorem c62 (L:List Tok) (o:Nat) (Hp:List AObj) (ho:Hp[o]? = some (pmO L 0)) (hl:TokEnd L) (hll:L.length≤500000) (hX:∃l i,Gi L=.ok l i):ACall Tryz.prog 62 [.ptr o 0] Hp (fun r H'=>r=Uh L∧∃i,H'=Hp.set o (pmO L i)):=by
 refine ACall.guarded (n:=21) (nc:=8) (a:=3) (b:=2) (os:=[oid Hp.length 0,oid Hp.length 1]) (own0:=[.cells 23 [.nil],.cells 60 [A2 0,A2 0]]) (rs:=[.cell 2 23,.cell 3 60])
  (fr0:=A3 0 (.ptr o 0) (A3 2 (.ptr (oid Hp.length 0) 0) (A3 3 (.ptr (oid Hp.length 1) 0) fun _=>.any))) (fr1:=A3 0 (.ptr o 0) (A3 2 (.ptr (oid Hp.length 0) 0) (A3 3 (.ptr (oid Hp.length 1) 0) (A3 4 (.fn (.func 87) [] [.ptr (oid Hp.length 0) 0,.ptr (oid Hp.length 1) 0]) fun _=>.any))))
  Tryz.func62 rfl rfl Tryz.ntmps62 (by simp) Tryz.func87 rfl Tryz.ntmps87 rfl (by simp) (by decide) (by decide) Tryz.call87 (fun d=>?_) (fun d=>?_) rfl (fun d l=>?_)
 ·refine AW.keep [0] (by simp only [go_sem,↓reduceIte,Nat.reduceEqDiff,Nat.reduceAdd]<;>rfl) ?_
  refine AW.region ?_;refine R.alloc jZ ?_;refine R.alloc jZ ?_;refine R.fin [0,2,3] ?_;exact ⟨rfl,rfl⟩
 ·refine R.makeFunc ?_;refine R.fin [0,2,3,4] ?_
  rfl
 exact @s8 { b:=ErrAt.b,bd:=d+1,bl:=l } _ _ _ _ _ _ _ Tryz.func62 rfl Tryz.func87 rfl L o Hp ho hl hll hX d
theorem wc {s:Str} (h:((Ee s).2.1 != 0)=false):Zz s=Lf (Ee s).1:=by
 unfold Zz Lf
 rw [if_neg (by rw [h];simp)]
 cases Gi (Ee s).1<;>rfl
theorem c33 (s:Str) (hs:s.length≤1048576) (hz0:(Ee s).2.1=0) (hX:∃l i,Gi (Ee s).1=.ok l i) (Hp:List AObj):AFun Tryz.prog 33 [A6 s] Hp (.tup [Cp (Zz s).1,.agg [A2 (Zz s).2.1,A2 (Zz s).2.2]]):=by
 refine ACall.body [.tmp 2,.cell 3 60] [0] Tryz.func33 Tryz.ntmps33 (fun d=>?_)
 refine jq ?_;refine It ?_;refine Z2 ?_;refine R.call Tryz.call61 (c61 s hs _) ?_;refine Z23 ?_;refine tq ?_;refine R.fin [3,4,5] ?_;refine Z35 ?_;refine R.fin [3,4,5,13] ?_
 refine W.cond (fun ht13=>?_) (fun ht13=>?_)
 ·rw [hz0] at ht13;cases ht13
 have hz:(Ee s).2.1=0:=by simpa using ht13
 have hle:=qf hz
 have hlen:=qw hz
 have e:=wc ht13
 refine Kf ?_;refine Vd ?_;refine R.box ?_
 refine R.callEx (fun _=>Hp) (fun i=>[.cells 60 [A2 0,A2 0],.cells 60 [A2 (Ee s).2.1,A2 ((Ee s).2.2:Nat)],pmO (Ee s).1 i]) Tryz.call62 ((c62 (Ee s).1 (oid Hp.length 2) _ (by rw [Ao];rfl) hle (by omega) hX).mono (fun r H' ⟨e,i,h⟩=>⟨e,i,h.trans (by rw [Dj];rfl)⟩)) (fun _=>rfl) (fun _ h=>h) (fun i=>?_)
 refine Z23 ?_;refine ja ?_;refine AW.ret ?_;exact K.fin (V.two V.tmp (V.cellN jA jS)) ⟨by rw [e],rfl⟩ (hlow:=by simpa using (Jt (n:=Hp.length) (k:=5) (o:=false) (l:=(Lf (Ee s).1).1)))

/-! SoundJoins: one behind the other, in one. -/
theorem nh {c:List Col} (h:Ez c=false):c.length≤1000000:=by
 unfold Ez at h
 simp only [Bool.or_eq_false_iff,decide_eq_false_iff_not] at h
 omega
/-! fuse: the chapter's example, and the weight of trees. -/
def fzS:Str:=[114,101,110,97,109,101,32,97,32,116,111,32,98,59,32,97,100,100,32,99,32,105,110,116,32,61,32,98,32,42,32,50,59]
def fzL:List Mov:=(Zz fzS).1
theorem ni:Zz fzS=(fzL,0,0):=by kernel_rfl
def fzC:List Col:=[⟨[97],1⟩]
theorem s9:OkCols fzC:=⟨by decide,fun y hy=>by rw [List.mem_singleton.1 hy];decide⟩
theorem wd {l:List Mov} (h:(l.all fun m=>m.ahead.all (fun e=>Cs Gg e)&&m.back.all (fun e=>Cs Gg e))=true):∀m∈l,RngMv m:=fun m hm=>by
 have:=List.all_eq_true.1 h m hm
 rw [Bool.and_eq_true] at this
 exact ⟨fun e he=>List.all_eq_true.1 this.1 e he,fun e he=>List.all_eq_true.1 this.2 e he⟩
theorem AAb:OkMovs fzL:=Su (by kernel_rfl) (wd (by kernel_rfl))
def fzT:List Expr:=(Jw fzC fzL).1
theorem nj:Jw fzC fzL=(fzT,0):=by kernel_rfl
def fzE:Expr:=fzT.getD 1 Ab
theorem we:(fzT.map A4)[1]? = some (A4 fzE):=by kernel_rfl
theorem wg:fzT.length=2:=by kernel_rfl
theorem wh:Cs Gg fzE=true:=by kernel_rfl
theorem sa:Nm fzE=false:=by kernel_rfl
theorem sb:Nt fzE=([97,32,42,32,50],0):=by kernel_rfl
theorem c20 (Hp:List AObj):AFun Tryz.prog 20 [] Hp (Al true):=by
 refine ACall.body [.tmp 0] [] Tryz.func20 Tryz.ntmps20 (fun d=>?_)
 refine Z2 ?_;refine R.fin [] ?_;refine D3 ?_;refine R.call Tryz.call33 (c33 fzS (by decide) (by kernel_rfl) (AA7 (by kernel_rfl)) _) ?_
 rw [ni]
 refine Z23 ?_;refine tq ?_;refine R.fin [1,2] ?_;refine D3 ?_;refine Vd ?_;refine R.buildSl jU jS jZ ?_;refine R.go ?_;refine R.call Tryz.call27 (c27 fzC s9 (by decide) fzL AAb _) ?_
 rw [nj]
 refine Z89 ?_;refine R.fin [2,3,4] ?_;refine Z8 ?_;refine Z27 ?_;refine Z27 ?_;refine Z66 ?_;refine R.fin [3,29] ?_
 refine W.cond (fun ht29=>?_) (fun ht29=>?_)
 ·rw [List.length_map,wg] at ht29;cases ht29
 refine Kf ?_
 refine R.go (h:=Q.indexAddr (1) (A4 fzE) (fun _=>we)) (hr:=?_)
 refine R.go ?_;refine R.call Tryz.call42 (c42 61 fzE (ay sa).ok (by decide) wh _) ?_
 rw [sb]
 refine Z89 ?_;refine R.fin [5,6] ?_;refine Jd ?_;refine Z0 ?_;refine R.fin [0] ?_;refine AW.ret ?_;exact K.fin (V.one V.tmp) ⟨by rfl,rfl⟩

theorem sc {c:List Col} {ms:List Mov} {i:Nat} {t:List Expr} {m:Mov} (hk:ms[i]? = some m):Lc c ms i t=Aw (colsAt c ms (i+1)) t m.back:=by unfold Lc;rw [List.getD_eq_getElem?_getD,hk];rfl
theorem Sz {c:List Col} {ms:List Mov} {z:Int} (hz:z≠0):∀i,i≤ms.length→Eo (colsAt c ms i) (ms.drop i)=([],z)→Eo c ms=([],z)
 | 0,_,h=>h
 | i+1,hi,h=>by
  have hk:ms[i]? = some ms[i]:=List.getElem?_eq_getElem (by omega)
  refine Sz hz i (by omega) ?_
  rw [Hb hk,Eo,←Dw hk,h]
  exact if_pos (by simpa using hz)
theorem X8 {c:List Col} {ms:List Mov}:∀i,i≤ms.length→∀t,Eo (colsAt c ms i) (ms.drop i)=(t,0)→Eo c ms=Jy c ms i t
 | 0,_,t,h=>h
 | i+1,hi,t,h=>by
  have hk:ms[i]? = some ms[i]:=List.getElem?_eq_getElem (by omega)
  have e:Eo (colsAt c ms i) (ms.drop i)=if (Lc c ms i t).2 != 0 then ([],(Lc c ms i t).2) else (Gc (colsAt c ms i) (ms.getD i N1).take (Lc c ms i t).1 t (colsAt c ms (i+1)),0):=by
   rw [Hb hk,Eo,←Dw hk,h,sc hk,List.getD_eq_getElem?_getD,hk]
   exact if_neg (by simp)
  rw [Jy]
  split
  ·rename_i h1
   exact Sz (by simpa using h1) i (by omega) (e.trans (if_pos h1))
  rename_i h1
  exact X8 i (by omega) _ (e.trans (if_neg h1))
theorem sd {c:List Col} {l:List Mov} (h:((D9 c l).2 != 0)=false):Qp c l=Eo c l:=by
 rw [M2 h]
 exact (X8 l.length (Nat.le_refl _) _ (by rw [List.drop_length];rfl)).symm
theorem ia {c:List Col} {l:List Mov} (b:Bool) (h:((Fd c l).2 != 0)=b):((D9 c l).2 != 0)=b:=by
 unfold D9
 split
 ·exact h
 exact h
/-! Trees put in the columns' places keep the kinds, or are of none. -/
def Le0 (a b:Int):Prop:=a=b∨a=0
def LeL:List Int→List Int→Prop
 | [],[]=>True
 | a::r,b::s=>Le0 a b∧LeL r s
 | _,_=>False
theorem ck {c c' k k':Int} (hc:Le0 c' c) (hk:Le0 k' k) (h:(Be c k).2=true):(Be c' k').2=true∧Le0 (Be c' k').1 (Be c k).1:=by
 unfold Le0 at *
 unfold Be at *
 simp only [beq_iff_eq,Bool.or_eq_true] at *
 repeat' split
 all_goals simp_all
 all_goals omega
theorem Oj:∀{ws ks ks':List Int} {c c' m:Int},LeL ks' ks→Le0 c' c→Hs ws ks c=some m→∃m',Hs ws ks' c'=some m'∧Le0 m' m
 | ws,[],[],c,c',m,_,hc,h=>by
  have e:∀z,Hs ws [] z=some z:=fun z=>by cases ws<;>rfl
  rw [e] at h
  injection h with h
  exact ⟨c',e c',h ▸ hc⟩
 | _,[],_::_,_,_,_,hl,_,_=>hl.elim
 | _,_::_,[],_,_,_,hl,_,_=>hl.elim
 | [],_::_,_::_,_,_,_,_,_,h=>by cases h
 | w::ws,k::ks,k'::ks',c,c',m,hl,hc,h=>by
  rw [Hs] at h ⊢
  cases hw2:w == -2 with
  | true =>
   rw [hw2,if_pos rfl] at h
   rw [if_pos rfl]
   exact Oj hl.2 hc h
  | false =>
   rw [hw2,if_neg (by simp)] at h
   rw [if_neg (by simp)]
   cases hw1:w == -1 with
   | true =>
    rw [hw1,if_pos rfl] at h
    rw [if_pos rfl]
    cases hm:(Be c k).2 with
    | false=>rw [hm] at h;cases h
    | true =>
     rw [hm,if_pos rfl] at h
     have:=ck hc hl.1 hm
     rw [this.1,if_pos rfl]
     exact Oj hl.2 this.2 h
   | false =>
    rw [hw1,if_neg (by simp)] at h
    rw [if_neg (by simp)]
    cases hm:(Be w k).2 with
    | false=>rw [hm] at h;cases h
    | true =>
     rw [hm,if_pos rfl] at h
     have:=ck (.inl rfl:Le0 w w) hl.1 hm
     rw [this.1,if_pos rfl]
     exact Oj hl.2 hc h
theorem af {l:List (Int×Int)} (h:∀q∈l,q.2=0):l.find? (fun q=>q.2 != 0)=none:=List.find?_eq_none.2 fun q hq=>by simpa using h q hq
theorem X9 {c:List Col} {o:Int} {t:Str} {v:Val} {ks:List (Int×Int)} (h1:(o==1)=false) (h2:(o==2)=false) (h:∀q∈ks,q.2=0):Jn c o t v ks=Fx (Bq o t) (ks.map (·.1)):=by
 unfold Jn
 rw [h1,h2,af h]
 rfl
theorem se {s:Sign} {ks ks':List Int} (hl:LeL ks' ks) (h:(Fx s ks).2=0):(Fx s ks').2=0∧Le0 (Fx s ks').1 (Fx s ks).1:=by
 unfold Fx at h ⊢
 cases hk:Hs s.kids ks 0 with
 | none=>rw [hk] at h;cases h
 | some m =>
  obtain ⟨m',e,hm⟩:=Oj hl (.inl rfl) hk
  rw [e]
  simp only
  split
  ·exact ⟨rfl,hm⟩
  exact ⟨rfl,.inl rfl⟩
mutual
theorem Xa {c c0:List Col} {t:List Expr} (H:∀s,(F0 c s).2=0→(B9 c0 (t.getD (Aj s c).toNat Ab)).2=0∧Le0 (B9 c0 (t.getD (Aj s c).toNat Ab)).1 (F0 c s).1):∀x:Expr,Cs C8 x=true→(B9 c x).2=0→∃y,putF c t x=some y∧(B9 c0 y).2=0∧Le0 (B9 c0 y).1 (B9 c x).1
 | .mk o s v k,hn,h=>by
  rw [Ef,Bool.and_eq_true] at hn
  by_cases h1:(o==1)=true
  ·have ho:o=1:=by simpa using h1
   subst ho
   have hk:k=[]:=by
    have:=hn.1
    unfold C8 at this
    rw [if_pos (show ((Expr.mk 1 s v k).op==1)=true from rfl),Bool.and_eq_true] at this
    have h3:((k.length:Int)==0)=true:=this.2
    simpa using h3
   subst hk
   exact ⟨.mk 1 s v [],rfl,rfl,.inl rfl⟩
  have h1':(o==1)=false:=by simpa using h1
  by_cases h2:(o==2)=true
  ·have e:B9 c (.mk o s v k)=F0 c s:=by rw [B9];unfold Jn;rw [if_neg h1,if_pos h2]
   rw [e] at h ⊢
   rw [putF,if_pos h2]
   have hf:¬Aj s c<0:=fun hf=>by unfold F0 at h;rw [if_pos hf] at h;cases h
   rw [if_neg hf]
   exact ⟨_,rfl,H s h⟩
  have h2':(o==2)=false:=by simpa using h2
  rw [B9] at h ⊢
  have hk:=li h h1' h2'
  obtain ⟨r,hr,hr2,hr3⟩:=T0 H k ((Co _ _).1 hn.2) hk
  rw [X9 h1' h2' hk] at h ⊢
  refine ⟨.mk o s v r,by rw [putF,if_neg h2,hr];rfl,?_⟩
  rw [B9,X9 h1' h2' hr2]
  exact se hr3 h
theorem T0 {c c0:List Col} {t:List Expr} (H:∀s,(F0 c s).2=0→(B9 c0 (t.getD (Aj s c).toNat Ab)).2=0∧Le0 (B9 c0 (t.getD (Aj s c).toNat Ab)).1 (F0 c s).1):∀l:List Expr,(∀e∈l,Cs C8 e=true)→(∀q∈I4 c l,q.2=0)→∃r,Hf c t l=some r∧(∀q∈I4 c0 r,q.2=0)∧LeL ((I4 c0 r).map (·.1)) ((I4 c l).map (·.1))
  | [],_,_=>⟨[],rfl,fun q hq=>by simp [I4] at hq,trivial⟩
  | e::l,hn,h=>by
    rw [I4] at h
    obtain ⟨y,h1,h2,h3⟩:=Xa H e (hn e List.mem_cons_self) (h _ List.mem_cons_self)
    obtain ⟨r,h4,h5,h6⟩:=T0 H l (fun x hx=>hn x (.tail _ hx)) (fun q hq=>h q (.tail _ hq))
    refine ⟨y::r,by rw [Hf,h1,h4];rfl,fun q hq=>?_,?_⟩
    · rw [I4] at hq
      rcases List.mem_cons.1 hq with rfl|hq
      · exact h2
      exact h5 q hq
    rw [I4,I4]
    exact ⟨h3,h6⟩
 end
/-- A tree that is of a column's kind, or of none. -/
structure FitX (c0:List Col) (e:Expr) (w:Int):Prop where
 right:Af e=true
 err:(B9 c0 e).2=0
 kind:Le0 (B9 c0 e).1 w
/-- Trees for columns, each of its column's kind. -/
structure FitT (c0 c:List Col) (t:List Expr):Prop where
 len:t.length=c.length
 each:∀p∈c.zip t,FitX c0 p.2 p.1.kind
theorem FitT.at {c0 c:List Col} {t:List Expr} (h:FitT c0 c t) {i:Nat} {y:Col} {e:Expr} (hy:c[i]? = some y) (he:t[i]? = some e):FitX c0 e y.kind:=
 h.each (y,e) (List.mem_of_getElem? (i:=i) (List.getElem?_zip_eq_some.2 ⟨hy,he⟩))
theorem FitT.rights {c0 c:List Col} {t:List Expr} (h:FitT c0 c t):∀e∈t,Af e=true:=fun e he=>by
 obtain ⟨i,hi⟩:=List.getElem?_of_mem he
 have hil:=(List.getElem?_eq_some_iff.1 hi).1
 exact (h.at (List.getElem?_eq_getElem (by rw [←h.len];exact hil)) hi).right
theorem FitT.name {c0 c:List Col} {t:List Expr} (h:FitT c0 c t) (s:Str) (hs:(F0 c s).2=0):(B9 c0 (t.getD (Aj s c).toNat Ab)).2=0∧Le0 (B9 c0 (t.getD (Aj s c).toNat Ab)).1 (F0 c s).1:=by
 have hf:¬Aj s c<0:=fun hf=>by unfold F0 at hs;rw [if_pos hf] at hs;cases hs
 obtain ⟨j,y,hj,_,e⟩:=find_mem.1 hf
 have hjl:=(List.getElem?_eq_some_iff.1 hj).1
 unfold F0
 rw [if_neg hf,e,Int.toNat_natCast,List.getD_eq_getElem?_getD,List.getElem?_eq_getElem (by rw [h.len];exact hjl),List.getD_eq_getElem?_getD,hj]
 have:=h.at hj (List.getElem?_eq_getElem (by rw [h.len];exact hjl))
 exact ⟨this.err,this.kind⟩
theorem FitT.app {c0 c d:List Col} {t u:List Expr} (h:FitT c0 c t) (h2:FitT c0 d u):FitT c0 (c++d) (t++u):=by
 refine ⟨by rw [List.length_append,List.length_append,h.len,h2.len],?_⟩
 rw [List.zip_append h.len.symm]
 intro p hp
 rcases List.mem_append.1 hp with hp|hp
 ·exact h.each p hp
 exact h2.each p hp
theorem FitT.own {c:List Col} (h:Az c=true):FitT c c (Hi c):=by
 obtain ⟨_,hok,hnd⟩:=Jm (by rw [Fa];exact h)
 refine ⟨by simp [Hi],fun p hp=>?_⟩
 obtain ⟨i,hi⟩:=List.getElem?_of_mem hp
 rw [List.getElem?_zip_eq_some] at hi
 obtain ⟨h1,h2⟩:=hi
 unfold Hi at h2
 rw [List.getElem?_map,h1] at h2
 injection h2 with h2
 have hy:=List.mem_of_getElem? h1
 rw [←h2]
 have e:B9 c (Bd p.1.name)=(p.1.kind,0):=by rw [Jo];exact Zh hnd hy rfl
 exact ⟨by rw [Pm,←D4];exact (hok _ hy).name,by rw [e],by rw [e];exact .inl rfl⟩
theorem wi {x:Expr} {c:List Col} {w:Int} (h:¬(Ih x c w != 0)=true):FitX c x w:=by
 have h0:Ih x c w=0:=by simpa using h
 unfold Ih at h0
 split at h0
 ·rename_i h1;exact absurd h0 (by simpa using h1)
 rename_i h1
 have h2:(Cb x c).2=0:=by simpa using h1
 obtain ⟨h3,_,h4⟩:=mm h2
 split at h0
 ·cases h0
 rename_i h5
 have h6:Ko x c w=true:=by simpa using h5
 unfold Ko at h6
 rw [h4] at h6 h2
 simp only [Bool.and_eq_true,Bool.or_eq_true,beq_iff_eq] at h6
 exact ⟨h3,h6.1,h6.2⟩
theorem Ui {c:List Col}:∀{l:List Expr} {ws:List Col},Bh c l ws=0→∀p∈ws.zip l,FitX c p.2 p.1.kind
 | [],ws,_,p,hp=>by simp at hp
 | x::l,[],_,p,hp=>by simp at hp
 | x::l,w::ws,h,p,hp=>by
  rw [Bh] at h
  split at h
  ·rename_i h1;exact absurd h (by simpa using h1)
  rename_i h1
  rw [List.zip_cons_cons] at hp
  rcases List.mem_cons.1 hp with rfl|hp
  ·exact wi h1
  exact Ui h p hp
theorem nk {c:List Col} {x:Expr} {w:Int} (hc:Az c=true) (h:FitX c x w):Ko x c w=true:=by
 unfold Ko
 have hcm:Dz c=true:=by unfold Az at hc;simp only [Bool.and_eq_true] at hc;exact hc.2
 rw [mn h.right hcm,h.err]
 simp only [beq_self_eq_true,Bool.true_and,Bool.or_eq_true,beq_iff_eq]
 exact h.kind
/-- A tree over trees that fit. -/
theorem nl {c0 c:List Col} {t:List Expr} {x:Expr} {w:Int} (hc:Az c=true) (ht:FitT c0 c t) (hx:FitX c x w):((Db x c t).2=0∨(Db x c t).2=3)∧((Db x c t).2=0→FitX c0 (Db x c t).1 w):=by
 have hcm:Dz c=true:=by unfold Az at hc;simp only [Bool.and_eq_true] at hc;exact hc.2
 have h0:((((!(Af x)) || t.any Da) || !(Jh c)) || ((c.length:Int) != (t.length:Int)))=false:=by
  rw [hx.right,Ho,hcm,ht.len]
  simp only [Bool.not_true,Bool.false_or,Bool.or_false,bne_self_eq_false]
  rw [List.any_eq_false]
  intro e he
  unfold Da
  rw [ht.rights e he]
  simp
 obtain ⟨y,hy,hk,hle⟩:=Xa ht.name x (Ii (by rw [←Ci];exact hx.right)) hx.err
 rw [mj h0,hy]
 simp only
 split
 ·rename_i hr
  refine ⟨.inl rfl,fun _=>⟨hr,hk,?_⟩⟩
  have:=hx.kind
  unfold Le0 at hle this ⊢
  rcases hle with h|h
  ·rw [h];exact this
  exact .inr h
 exact ⟨.inr rfl,fun h=>absurd (show (3:Int)=0 from h) (by decide)⟩
theorem N3 {c0 c:List Col} {t:List Expr} (hc:Az c=true) (ht:FitT c0 c t):∀{l:List Expr} {ws:List Col},l.length=ws.length→(∀p∈ws.zip l,FitX c p.2 p.1.kind)→((Aw c t l).2=0∨(Aw c t l).2=3)∧((Aw c t l).2=0→FitT c0 ws (Aw c t l).1)
 | [],[],_,_=>⟨.inl rfl,fun _=>⟨rfl,fun p hp=>by simp at hp⟩⟩
 | [],_::_,h,_=>by simp at h
 | _::_,[],h,_=>by simp at h
 | x::l,w::ws,hl,h=>by
  have h1:=nl hc ht (h (w,x) (by simp))
  have h2:=N3 hc ht (l:=l) (ws:=ws) (by simpa using hl) (fun p hp=>h p (by rw [List.zip_cons_cons];exact .tail _ hp))
  unfold Aw
  split
  ·rename_i h3
   refine ⟨h1.1,fun e=>absurd e (by simpa using h3)⟩
  rename_i h3
  split
  ·rename_i h4
   exact ⟨h2.1,fun e=>absurd e (by simpa using h4)⟩
  rename_i h4
  refine ⟨.inl rfl,fun _=>?_⟩
  have a:=h1.2 (by simpa using h3)
  have b:=h2.2 (by simpa using h4)
  refine ⟨by simp [b.len],fun p hp=>?_⟩
  rw [List.zip_cons_cons] at hp
  rcases List.mem_cons.1 hp with rfl|hp
  ·exact a
  exact b.each p hp
theorem np {c0 c:List Col} {t:List Expr} {take:List Str} (h:FitT c0 c t):FitT c0 (Bi c take) (C1 take c t):=by
 refine ⟨Gv h.len.symm,fun p hp=>?_⟩
 rw [Sv h.len.symm,N2] at hp
 obtain ⟨i,hi⟩:=List.getElem?_of_mem hp
 rw [List.getElem?_zip_eq_some,List.getElem?_map,List.getElem?_map] at hi
 cases hz:((c.zip t).filter fun p => !take.contains p.1.name)[i]? with
 | none=>rw [hz] at hi;cases hi.1
 | some q =>
  rw [hz] at hi
  have h1:q.1=p.1:=Option.some.inj hi.1
  have h2:q.2=p.2:=Option.some.inj hi.2
  rw [←h1,←h2]
  exact h.each q (List.mem_filter.1 (List.mem_of_getElem? hz)).1
theorem T3 {c:List Col} {m:Mov} (h:(Ap c m).2=0):Bh c m.ahead (Ah c m)=0∧Bh (Ap c m).1 m.back (D5 c m)=0:=by
 unfold Ap at h ⊢
 split at h
 ·rename_i h1;exact absurd h (by simpa using h1)
 rename_i h1
 rw [if_neg h1]
 split at h
 ·rename_i h2;exact absurd h (by simpa using h2)
 rename_i h2
 rw [if_neg h2]
 split at h
 ·rename_i h3;exact absurd h (by simpa using h3)
 rename_i h3
 rw [if_neg h3]
 exact ⟨by simpa using h2,by simpa using h3⟩
theorem Nw {c:List Col} {m:Mov} {r:List Mov}:∀k,colsAt c (m::r) (k+1)=colsAt (Ap c m).1 r k
 | 0=>rfl
 | k+1=>by rw [colsAt,Nw k,colsAt];rfl
theorem Qu {c:List Col} {m:Mov} {r:List Mov}:colsAt c (m::r) (m::r).length=colsAt (Ap c m).1 r r.length:=Nw _
theorem T5 {c0:List Col}:∀(ms:List Mov) (c:List Col) (t:List Expr),Az c=true→(∀m∈ms,D7 m=true)→(Bj c ms).2=0→FitT c0 c t→((Ex c t ms).2=0∨(Ex c t ms).2=3)∧((Ex c t ms).2=0→FitT c0 (colsAt c ms ms.length) (Ex c t ms).1)
 | [],c,t,_,_,_,ht=>⟨.inl rfl,fun _=>ht⟩
 | m::r,c,t,hc,hv,hs,ht=>by
  have h2:=Qq hs
  have h3:=Jx h2.1
  have h4:=T3 h2.1
  have h5:=Do (I6 (hv m List.mem_cons_self))
  have h6:=N3 hc ht (l:=m.ahead) (ws:=Ah c m) (by rw [F1];exact h5.1) (Ui h4.1)
  unfold Ex
  split
  ·rename_i h7
   exact ⟨h6.1,fun e=>absurd e (by simpa using h7)⟩
  rename_i h7
  rw [Qu]
  exact T5 r _ _ h3.2.2 (fun x hx=>hv x (.tail _ hx)) h2.2 (by rw [h3.1];exact (np ht).app (h6.2 (by simpa using h7)))
theorem nq {c d d0:List Col} {m:Mov} {was t:List Expr} (hc:Az c=true) (hd:Az d=true) (hde:d=Bi c m.take++Ah c m) (ht:FitT d0 d t) (hw:FitT d0 (D5 c m) was) {y:Col} (hy:y∈c):FitX d0 (Ir m.take was t d y) y.kind:=by
 have hcn:=(Jm (by rw [Fa];exact hc)).2.2
 have hdn:=(Jm (by rw [Fa];exact hd)).2.2
 unfold Ir
 split
 ·rename_i h
  obtain ⟨j,hj,hjl⟩:=n8 h
  have hs:m.take[j]=y.name:=by
   unfold Ig at hj
   cases hf:m.take.findIdx? (·==y.name) with
   | none=>rw [hf] at hj;exact absurd hj (by simp)
   | some i =>
    rw [hf] at hj
    have e2:i=j:=Int.ofNat.inj hj
    subst e2
    simpa using (List.findIdx?_eq_some_iff_getElem.1 hf).2.1
  rw [hj,Int.toNat_natCast]
  have htk:(D5 c m)[j]? = some y:=by
   unfold D5
   rw [List.getElem?_map,List.getElem?_eq_getElem hjl]
   obtain ⟨i,hi⟩:=List.getElem?_of_mem hy
   show some (c.getD (Aj m.take[j] c).toNat ⟨[],0⟩)=some y
   rw [hs,L3 hcn hi,Int.toNat_natCast,List.getD_eq_getElem?_getD,hi]
   rfl
  have hwl:j<was.length:=by rw [hw.len];exact (List.getElem?_eq_some_iff.1 htk).1
  rw [List.getD_eq_getElem?_getD,List.getElem?_eq_getElem hwl]
  exact hw.at htk (List.getElem?_eq_getElem hwl)
 rename_i h
 have hyd:y∈d:=by
  rw [hde]
  refine List.mem_append_left _ ?_
  unfold Bi
  rw [List.mem_filter]
  refine ⟨hy,?_⟩
  rw [←U5,decide_eq_false h]
  rfl
 obtain ⟨i,hi⟩:=List.getElem?_of_mem hyd
 have htl:i<t.length:=by rw [ht.len];exact (List.getElem?_eq_some_iff.1 hi).1
 rw [L3 hdn hi,Int.toNat_natCast,List.getD_eq_getElem?_getD,List.getElem?_eq_getElem htl]
 exact ht.at hi (List.getElem?_eq_getElem htl)
theorem Xb:∀(ms:List Mov) (c:List Col),Az c=true→(∀m∈ms,D7 m=true)→(Bj c ms).2=0→((Eo c ms).2=0∨(Eo c ms).2=3)∧((Eo c ms).2=0→FitT (colsAt c ms ms.length) c (Eo c ms).1)
 | [],c,hc,_,_=>⟨.inl rfl,fun _=>FitT.own hc⟩
 | m::r,c,hc,hv,hs=>by
  have h2:=Qq hs
  have h3:=Jx h2.1
  have h4:=T3 h2.1
  have h5:=Do (I6 (hv m List.mem_cons_self))
  have ih:=Xb r _ h3.2.2 (fun x hx=>hv x (.tail _ hx)) h2.2
  unfold Eo
  rw [Qu]
  split
  ·rename_i h7
   exact ⟨ih.1,fun e=>absurd e (by simpa using h7)⟩
  rename_i h7
  have ht:=ih.2 (by simpa using h7)
  have h6:=N3 h3.2.2 ht (l:=m.back) (ws:=D5 c m) (by unfold D5;rw [List.length_map];exact h5.2) (Ui h4.2)
  split
  ·rename_i h8
   exact ⟨h6.1,fun e=>absurd e (by simpa using h8)⟩
  rename_i h8
  refine ⟨.inl rfl,fun _=>⟨by simp [Gc],fun p hp=>?_⟩⟩
  obtain ⟨i,hi⟩:=List.getElem?_of_mem hp
  rw [List.getElem?_zip_eq_some] at hi
  obtain ⟨a,b⟩:=hi
  unfold Gc at b
  rw [List.getElem?_map,a] at b
  have e:_=p.2:=Option.some.inj b
  rw [←e]
  exact nq hc h3.2.2 h3.1 ht (h6.2 (by simpa using h8)) (List.mem_of_getElem? a)
theorem cl {c0 c:List Col} {t:List Expr} (h:FitT c0 c t) {x:Nat} (hx:x<t.length):okE 30 t[x]:=(Sp (by rw [←Ci];exact h.rights _ (List.getElem_mem hx))).1
theorem ag {c0 c:List Col} {t:List Expr} (h0:Az c0=true) (h:FitT c0 c t) {x:Nat} (hx:x<t.length) (hy:x<c.length):((((t.map A4).length:Int) != ((c.map Ak).length:Int)) || !(Ko t[x] c0 c[x].kind))=false:=by
 rw [nk h0 (h.at (List.getElem?_eq_getElem hy) (List.getElem?_eq_getElem hx)),List.length_map,List.length_map,h.len]
 simp
theorem c7 (c:List Col) (l:List Mov) (hrl:∀m∈l,RngMv m) (Hp:List AObj):AFun Tryz.prog 7 [A9 c,Cp l] Hp (Al true):=by
 refine ACall.body [.tmp 4] [0,1] Tryz.func7 Tryz.ntmps7 (fun d=>?_)
 refine Z62 ?_;refine Z68 ?_;refine R.call Tryz.call20 (c20 _) ?_;refine R.go ?_;refine R.fin [0,1,15] ?_
 refine W.cond (fun ht15=>?_) (fun ht15=>?_)
 ·cases ht15
 refine Tn ?_;refine R.call Tryz.call9 (ABa c _) ?_;refine dv ?_;refine G.call Tryz.call10 (fun hB=>c10 l _) ?_;refine R.go ?_;refine R.fin [0,1,21] ?_
 refine W.cond (fun ht21=>?_) (fun ht21=>?_)
 ·refine jr ?_;exact ea
 have hw:Ez c=false∧Fe l=false:=by simpa using ht21
 have hc:=b8 hw.1
 have hc2:c.length≤1000000:=nh hw.1
 have hl:OkMovs l:=Su hw.2 hrl
 refine O8 ?_;refine R.call Tryz.call15 (c15 c hc l hl _) ?_;refine Z89 ?_;refine R.fin [0,1,5,6] ?_;refine Z8 ?_;refine R.fin [0,1,5,29] ?_
 refine W.cond (fun ht29=>?_) (fun ht29=>?_)
 ·refine jr ?_;exact ea
 have hs:=ia false ht29
 obtain ⟨hmay,hst,hss⟩:=La hs
 have hrc:Az c=true:=by unfold Jr at hmay;simp only [Bool.and_eq_true] at hmay;exact hmay.1
 have hRS:Fd c l=(B0 c l l.length,0):=by rw [←hss];unfold D9;rw [if_neg (by rw [ht29];simp)]
 have hol:((B0 c l l.length).map A9).length=l.length+1:=by rw [List.length_map,Ff]
 have hlen:=hl.len
 have hD:=Eg hc (fun m hm=>hl.each m hm) l.length
 have hDr:=M1 hrc hst l.length
 have hcl:=(Jm (by rw [Fa];exact hrc)).1
 have hdl:=(Jm (by rw [Fa];exact hDr)).1
 have hf:=T5 l c (Hi c) hrc (Ke hmay) hst (FitT.own hrc)
 rw [←Ss hs] at hf
 obtain ⟨hf1,hf2⟩:=hf
 obtain ⟨hb1,hb2⟩:=Xb l c hrc (Ke hmay) hst
 clear ht29
 rw [hRS]
 refine Z5 ?_;refine Z41 ?_
 refine R.go (h:=Q.indexAddr (l.length) (A9 (colsAt c l l.length)) (fun _=>Zo (Gb (Nat.le_refl _)))) (hr:=?_)
 refine Z0 ?_;refine R.fin [0,1,7] ?_;refine Z1 ?_;refine R.call Tryz.call27 (c27 c hc hc2 l hl _) ?_;refine Z89 ?_;refine R.fin [0,1,7,8,9] ?_;refine Z1 ?_;refine R.call Tryz.call28 (c28 c hc hc2 l hl _) ?_
 rw [sd hs]
 refine Z89 ?_;refine R.fin [0,7,8,9,10,11] ?_;refine Z68 ?_
 have hlx:∀{c0 c:List Col} {t:List Expr},FitT c0 c t→t.length=c.length:=fun h=>h.len
 generalize (Jw c l).1=tx at *
 generalize (Jw c l).2=f at *
 generalize (Eo c l).1=ty at *
 generalize (Eo c l).2=g at *
 generalize colsAt c l l.length=dd at *
 refine Z0 ?_;refine R.fin [0,7,8,9,10,11,49] ?_
 refine W.cond (fun ht49=>?_) (fun ht49=>?_)
 ·have hft:=hf2 (by simpa using ht49)
  have hxl:=hlx hft
  refine Z2 ?_;refine R.fin [0,7,8,9,10,11,12] ?_
  refine AW.loopC (α:=Nat) (fun x=>⟨116,A3 0 (A9 c) (A3 7 (A9 dd) (A3 8 (Ay tx) (A3 9 (A2 f) (A3 10 (Ay ty) (A3 11 (A2 g) (A3 12 (A2 (x:Nat)) (fun _=>.any))))))),Hp,[],[],none⟩) (fun x=>x≤tx.length) (fun x=>tx.length-x) (0) (Nat.zero_le _) (StLe.of_eq rfl) rfl (fun x hx=>?_)
  refine Z57 ?_;refine R.fin [0,7,8,9,10,11,12,53] ?_
  refine W.cond (fun ht53=>?_) (fun ht53=>?_)
  ·have hlt:x<tx.length:=by simpa using ht53
   have hlt2:x<dd.length:=by omega
   refine Z87 ?_;refine Z81 ?_;refine dq ?_
   refine H.go (h:=Q.indexAddr (x) (A4 tx[x]) (fun _=>Ae hlt)) (hr:=?_)
   refine Z45 ?_;refine Z45 ?_
   refine H.go (h:=Q.indexAddr (x) (Ak dd[x]) (fun _=>Ae hlt2)) (hr:=?_)
   refine Z45 ?_;refine D.tail ?_;refine G.call Tryz.call32 (fun hB=>c32 30 tx[x] (cl hft hlt) (by decide) c hc dd[x].kind _) ?_;refine Z66 ?_;refine R.fin [0,7,8,9,10,11,12,74] ?_
   refine W.cond (fun ht74=>?_) (fun ht74=>?_)
   ·rw [ag hrc hft hlt hlt2] at ht74
    cases ht74
   refine Z64 ?_;refine R.fin [0,7,8,9,10,11,12] ?_;exact K.lpN (x+1) hlt (by omega) (StCut.of_eq rfl)
  refine Z47 ?_;refine Z8 ?_;refine R.fin [0,7,9,10,11,76] ?_
  refine W.cond (fun ht76=>?_) (fun ht76=>?_)
  ·have hbt:=hb2 (by simpa using ht76)
   have hyl:=hlx hbt
   refine Z2 ?_;refine R.fin [0,7,9,10,11,13] ?_
   refine AW.loopC (α:=Nat) (fun x=>⟨116,A3 0 (A9 c) (A3 7 (A9 dd) (A3 9 (A2 f) (A3 10 (Ay ty) (A3 11 (A2 g) (A3 13 (A2 (x:Nat)) (fun _=>.any)))))),Hp,[],[],none⟩) (fun x=>x≤ty.length) (fun x=>ty.length-x) (0) (Nat.zero_le _) (StLe.of_eq rfl) rfl (fun x hx=>?_)
   refine Z57 ?_;refine R.fin [0,7,9,10,11,13,80] ?_
   refine W.cond (fun ht80=>?_) (fun ht80=>?_)
   ·have hlt:x<ty.length:=by simpa using ht80
    have hlt2:x<c.length:=by omega
    refine Z87 ?_;refine Z81 ?_;refine dq ?_
    refine H.go (h:=Q.indexAddr (x) (A4 ty[x]) (fun _=>Ae hlt)) (hr:=?_)
    refine Z45 ?_;refine Z45 ?_
    refine H.go (h:=Q.indexAddr (x) (Ak c[x]) (fun _=>Ae hlt2)) (hr:=?_)
    refine Z45 ?_;refine xa ?_;refine Z66 ?_;refine R.fin [0,7,9,10,11,13,101] ?_
    refine W.cond (fun ht101=>?_) (fun ht101=>?_)
    ·rw [ag hDr hbt hlt hlt2] at ht101
     cases ht101
    refine Z64 ?_;exact x5
   refine Z47 ?_;refine Jd ?_;exact og
  refine Z70 ?_;refine Z7 ?_;exact og
 refine Z5 ?_;refine Z8 ?_;refine R.fin [0,7,9,10,11,76] ?_
 refine W.cond (fun ht76=>?_) (fun ht76=>?_)
 ·have hbt:=hb2 (by simpa using ht76)
  have hyl:=hlx hbt
  refine Z2 ?_;refine R.fin [0,7,9,10,11,13] ?_
  refine AW.loopC (α:=Nat) (fun x=>⟨116,A3 0 (A9 c) (A3 7 (A9 dd) (A3 9 (A2 f) (A3 10 (Ay ty) (A3 11 (A2 g) (A3 13 (A2 (x:Nat)) (fun _=>.any)))))),Hp,[],[],none⟩) (fun x=>x≤ty.length) (fun x=>ty.length-x) (0) (Nat.zero_le _) (StLe.of_eq rfl) rfl (fun x hx=>?_)
  refine Z57 ?_;refine R.fin [0,7,9,10,11,13,80] ?_
  refine W.cond (fun ht80=>?_) (fun ht80=>?_)
  ·have hlt:x<ty.length:=by simpa using ht80
   have hlt2:x<c.length:=by omega
   refine Z87 ?_;refine Z81 ?_;refine dq ?_
   refine H.go (h:=Q.indexAddr (x) (A4 ty[x]) (fun _=>Ae hlt)) (hr:=?_)
   refine Z45 ?_;refine Z45 ?_
   refine H.go (h:=Q.indexAddr (x) (Ak c[x]) (fun _=>Ae hlt2)) (hr:=?_)
   refine Z45 ?_;refine xa ?_;refine Z66 ?_;refine R.fin [0,7,9,10,11,13,101] ?_
   refine W.cond (fun ht101=>?_) (fun ht101=>?_)
   ·rw [ag hDr hbt hlt hlt2] at ht101
    cases ht101
   refine Z64 ?_;exact x5
  refine Z47 ?_;refine Jd ?_;exact og
 refine Z70 ?_;refine Z7 ?_;exact og

end Go.SX.Nb
