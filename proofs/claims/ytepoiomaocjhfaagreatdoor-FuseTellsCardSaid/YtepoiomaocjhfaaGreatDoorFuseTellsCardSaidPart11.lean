/- Texts on the way to this: FuseTells answers true for whatever it is handed: the trees of all columns behind and ahead are what the chapter says, composed one move behind the other, or the error. (part 11) -/
import Derived.Test.YtepoiomaocjhfaaGreatDoorFuseTellsCardSaidPart10
set_option linter.all false
namespace Go.SX.Nb
open Go Go.SX Go.Proofs
variable [ErrAt]
set_option maxRecDepth 4000
abbrev pmO (L:List Tok) (i:Nat):AObj:=.cells 96 [db L,A2 (i:Int)]
abbrev mvC (m:Mov):List AV:=[A2 m.kind,.slice true 1 (m.take.map A5),.slice true 2 (m.give.map An),.slice true 6 (m.ahead.map A4),.slice true 6 (m.back.map A4)]
abbrev mvO (m:Mov):AObj:=.cells 64 (mvC m)
abbrev Lh:AV:=.v (.tuple #[])
theorem Cj {n:Nat} {L:List Tok} {i:Nat}:ObjLow n (pmO L i):=by
 show ∀y∈[AV.slice false 3 (L.map I0),A2 (i:Int)],Low n y
 intro y hy
 simp only [List.mem_cons,List.not_mem_nil,or_false] at hy
 rcases hy with rfl|rfl
 ·simp [or_imp,forall_and]
 simp
/-- A contract of the parser, of sources that are right: it comes to what the model comes to. -/
structure CP (g:FuncId) (args:List AV) (H:List AObj) {α:Type} (X:PR α) (Q:α→Nat→AV→List AObj→Prop) (R:List AObj→Prop):Prop where
 run:(∃c j,X=.ok c j)→ACall Tryz.prog g args H (fun r H'=>∃c j,X=.ok c j∧Q c j r H')
theorem CP.ok {g:FuncId} {args:List AV} {H:List AObj} {α:Type} {X:PR α} {Q:α→Nat→AV→List AObj→Prop} {R:List AObj→Prop} {c:α} {j:Nat} (h:CP g args H X Q R) (hX:X=.ok c j):ACall Tryz.prog g args H (fun r H'=>Q c j r H'):=
 (h.run ⟨c,j,hX⟩).mono (fun r H' ⟨c',j',e,hq⟩=>by rw [hX] at e;injection e with e1 e2;subst e1;subst e2;exact hq)
theorem Bo {α:Type} {X:PR α} {e a:Int} (h:∃c j,X=.ok c j) (hX:X=.bad e a):False:=by
 obtain ⟨c,j,h⟩:=h
 rw [hX] at h
 cases h
def PR.isOk {α:Type}:PR α→Bool
 | .ok _ _=>true
 | .bad _ _=>false
theorem ACf {α:Type} {X:PR α} (h:X.isOk=true):∃c j,X=.ok c j:=by
 cases X with
 | ok c j=>exact ⟨c,j,rfl⟩
 | bad e a=>cases h
/-- The parser's object alone has turned. -/
def W1 (L:List Tok) (o:Nat) (Hp H':List AObj):Prop:=∃j,H'=Hp.set o (pmO L j)
theorem c88 (L:List Tok) (i o:Nat) (Hp:List AObj) (ho:Hp[o]? = some (pmO L i)) (hi:i<L.length):AFun Tryz.prog 88 [.ptr o 0] Hp (I0 (A9 L i)):=by
 refine ACall.body [.cell 2 125] [0] Tryz.func88 Tryz.ntmps88 (fun d=>?_)
 refine AAm ?_;refine Z44 ?_
 refine D.go (h:=Q.loadUp ho) (hr:=?_)
 refine Z44 ?_
 refine D.go (h:=Q.loadUp ho) (hr:=?_)
 refine D.tail ?_
 refine R.go (h:=Q.indexAddr (i) (I0 (A9 L i)) (fun _=>Qt hi)) (hr:=?_)
 refine R.go ?_;exact rp

theorem ACg (L:List Tok) (s:Str) (i o:Nat) (Hp:List AObj) (ho:Hp[o]? = some (pmO L i)) (hi:i<L.length):AFun Tryz.prog 162 [.ptr o 0,A5 s] Hp (Ao (isP L s i)):=by
 refine ACall.body [.tmp 4] [0,1] Tryz.func162 Tryz.ntmps162 (fun d=>?_)
 refine Z57 ?_;refine x9 ?_;refine Z17 ?_;refine R.fin [1,5] ?_;refine Zs ?_;refine Z62 ?_;exact mq

/-! Where the parser of moves comes to. -/
def PR.In {α:Type} (x:PR α) (i n:Nat):Prop:=∀r j,x=.ok r j→i<j∧j<n
theorem PR.bind_ok {α β:Type} {x:PR α} {f:α→Nat→PR β} {r:β} {j:Nat} (h:x.bind f=.ok r j):∃a k,x=.ok a k∧f a k=.ok r j:=by
 cases x with
 | ok a k=>exact ⟨a,k,rfl,h⟩
 | bad e a=>cases h
theorem vm {L:List Tok} {s:Str} {i:Nat} (h:isP L s i=true):(A9 L i).kind≠0:=by
 unfold isP at h
 simp only [Bool.and_eq_true,Bool.or_eq_true,beq_iff_eq] at h
 rcases h.1 with h|h<;>rw [h]<;>decide
theorem Eh {L:List Tok} (hl:TokEnd L) {s:Str} {i:Nat} (hi:i<L.length):(Bq L s i).In i L.length:=by
 intro r j h
 unfold Bq at h
 split at h
 ·rename_i h1
  injection h with _ h
  subst h
  exact ⟨Nat.lt_succ_self i,hl.step hi (vm h1)⟩
 cases h
theorem Gb {L:List Tok} (hl:TokEnd L) {i:Nat} (hi:i<L.length):(F7 L i).In i L.length:=by
 intro r j h
 unfold F7 at h
 split at h
 ·cases h
 rename_i h1
 injection h with _ h
 subst h
 have hk:(A9 L i).kind=1:=by simpa using h1
 exact ABa
theorem vn {L:List Tok} (hl:TokEnd L) {nm:Str} {i:Nat} (hi:i<L.length):(fg L nm i).In i L.length:=by
 intro r j h
 unfold fg at h
 split at h
 ·cases h
 rename_i h1
 injection h with _ h
 subst h
 have hk:(A9 L i).kind=2:=by simp only [Bool.not_eq_true,Bool.or_eq_false_iff,bne_eq_false_iff_eq] at h1;exact h1.1
 exact ABa
theorem Ud {L:List Tok} (hl:TokEnd L) {i:Nat} (hi:i<L.length):(Hn L i).In i L.length:=by
 intro r j h
 obtain ⟨a,k,h1,h2⟩:=PR.bind_ok h
 obtain ⟨a1,a2⟩:=Gb hl hi _ _ h1
 obtain ⟨b1,b2⟩:=vn hl a2 _ _ h2
 exact ⟨by omega,b2⟩
theorem N5 {L:List Tok} (hl:TokEnd L) (hll:L.length≤500000) {i:Nat} (hi:i<L.length) {x:Expr} {k:Nat} (h:Jl L i=.ok x k):i≤k∧k<L.length:=by
 unfold Jl at h
 split at h
 ·cases h
 rename_i h0
 injection h with _ h
 subst h
 have h0:(atM L i).2.2.1=0:=by simpa using h0
 have hq:=R8 hl (by omega:L.length≤1048576) hi
 unfold atM at h0 ⊢
 split at h0
 ·rename_i h1
  have:(atS L i (atR L i)).code=0:=h0
  rw [this] at h1
  cases h1
 rename_i h1
 rw [if_neg h1]
 have e:(atS L i (atR L i)).i=(atR L i).2.i:=by
  unfold atS
  repeat' split
  all_goals first|rfl|exact failM_i.1
 show i≤((atS L i (atR L i)).i:Int).toNat∧((atS L i (atR L i)).i:Int).toNat<_
 rw [Int.toNat_natCast,e]
 exact ⟨hq.le,hq.lt⟩
/-- A move has no more parts than so many. -/
structure MvLe (m:Mov) (n:Nat):Prop where
 take:m.take.length≤n
 give:m.give.length≤n
 ahead:m.ahead.length≤n
 back:m.back.length≤n
theorem MvLe.mono {m:Mov} {i j:Nat} (h:MvLe m i) (hij:i≤j):MvLe m j:=⟨Nat.le_trans h.take hij,Nat.le_trans h.give hij,Nat.le_trans h.ahead hij,Nat.le_trans h.back hij⟩
/-- What a part of a move comes to. -/
def z8 (x:PR Mov) (i n:Nat):Prop:=∀m j,x=.ok m j→i≤j∧j<n∧MvLe m (2*j)
/-- A part of a move that goes on from i. -/
def Sk (L:List Tok) (one:Mov→Nat→PR Mov):Prop:=∀m i,MvLe m (2*i-1)→0<i→i<L.length→z8 (one m i) i L.length
theorem Ii {L:List Tok} (hl:TokEnd L) (hll:L.length≤500000):Sk L (Da L):=by
 intro m i hm _ hi m' k h
 obtain ⟨c,j,h1,h2⟩:=PR.bind_ok h
 obtain ⟨u,j2,h3,h4⟩:=PR.bind_ok h2
 obtain ⟨x,j3,h5,h6⟩:=PR.bind_ok h4
 injection h6 with h6 h7
 subst h6;subst h7
 have a1:=Ud hl hi _ _ h1
 have a2:=Eh hl a1.2 _ _ h3
 have a3:=N5 hl hll a2.2 h5
 obtain ⟨b1,b2,b3,b4⟩:=hm
 exact ⟨by omega,a3.2,by show m.take.length≤_;omega,by show (m.give++[c]).length≤_;rw [List.length_append,List.length_singleton];omega,by show (m.ahead++[x]).length≤_;rw [List.length_append,List.length_singleton];omega,by show m.back.length≤_;omega⟩
theorem Yp {L:List Tok} (hl:TokEnd L) (hll:L.length≤500000):Sk L (P4 L):=by
 intro m i hm h0 hi m' k h
 obtain ⟨x,j,h1,h2⟩:=PR.bind_ok h
 injection h2 with h6 h7
 subst h6;subst h7
 have a3:=N5 hl hll hi h1
 obtain ⟨b1,b2,b3,b4⟩:=hm
 exact ⟨by omega,a3.2,by show m.take.length≤_;omega,by show m.give.length≤_;omega,by show m.ahead.length≤_;omega,by show (m.back++[x]).length≤_;rw [List.length_append,List.length_singleton];omega⟩
theorem Ry {L:List Tok} (hl:TokEnd L):Sk L (N4 L):=by
 intro m i hm _ hi m' k h
 obtain ⟨s,j,h1,h2⟩:=PR.bind_ok h
 injection h2 with h6 h7
 subst h6;subst h7
 have a1:=Gb hl hi _ _ h1
 obtain ⟨b1,b2,b3,b4⟩:=hm
 exact ⟨by omega,a1.2,by show (m.take++[s]).length≤_;rw [List.length_append,List.length_singleton];omega,by show m.give.length≤_;omega,by show m.ahead.length≤_;omega,by show m.back.length≤_;omega⟩
theorem Jg {L:List Tok} {s:Str} {i:Nat} {u:Unit} {j:Nat} (h:Bq L s i=.ok u j):j=i+1:=by
 unfold Bq at h
 split at h
 ·injection h with _ h;exact h.symm
 cases h
theorem Yq {L:List Tok} (hl:TokEnd L) {n:Int} {one:Mov→Nat→PR Mov} (hP:Sk L one):∀(f k:Nat) (m:Mov) (i:Nat),MvLe m (2*i)→0<i→i<L.length→z8 (N3 L n one f k m i) i L.length
 | 0,k,m,i,hm,h0,hi=>fun m' j h=>by
  injection h with h1 h2
  subst h1;subst h2
  exact ⟨Nat.le_refl _,hi,hm⟩
 | f+1,k,m,i,hm,h0,hi=>fun m' j h=>by
  rw [N3] at h
  split at h
  ·obtain ⟨u,j1,h1,h2⟩:=PR.bind_ok h
   obtain ⟨m1,j2,h3,h4⟩:=PR.bind_ok h2
   have e:=Jg h1
   have a1:=Eh hl hi _ _ h1
   obtain ⟨b1,b2,b3⟩:=hP m j1 (hm.mono (by omega)) (by omega) a1.2 _ _ h3
   obtain ⟨c1,c2,c3⟩:=Yq hl hP f (k+1) m1 j2 b3 (by omega) b2 _ _ h4
   exact Zw
  injection h with h1 h2
  subst h1;subst h2
  exact ⟨Nat.le_refl _,hi,hm⟩
theorem N6 {L:List Tok} (hl:TokEnd L) {n:Int} {one:Mov→Nat→PR Mov} (hP:Sk L one):Sk L (G9 L n one):=by
 intro m i hm h0 hi m' k h
 obtain ⟨m1,j,h1,h2⟩:=PR.bind_ok h
 obtain ⟨b1,b2,b3⟩:=hP m i hm h0 hi _ _ h1
 obtain ⟨c1,c2,c3⟩:=Yq hl hP _ _ m1 j b3 (by omega) b2 _ _ h2
 exact Zw
theorem Pr {L:List Tok} (hl:TokEnd L) (hll:L.length≤500000) {m:Mov} {i:Nat} (hm:MvLe m (2*i)) (hi:i<L.length):z8 (E9 L m i) i L.length:=by
 intro m' k h
 obtain ⟨u,j,h1,h2⟩:=PR.bind_ok h
 have e:=Jg h1
 have a1:=Eh hl hi _ _ h1
 obtain ⟨c1,c2,c3⟩:=N6 hl (Yp hl hll) m j (hm.mono (by omega)) (by omega) a1.2 _ _ h2
 exact Zw
theorem kt {L:List Tok} (hl:TokEnd L):Sk L (Ho L):=by
 intro m i hm h0 hi m' k h
 obtain ⟨s,j,h1,h2⟩:=PR.bind_ok h
 obtain ⟨u,j2,h3,h4⟩:=PR.bind_ok h2
 obtain ⟨t,j3,h5,h6⟩:=PR.bind_ok h4
 injection h6 with h6 h7
 subst h6;subst h7
 have a1:=Gb hl hi _ _ h1
 have a2:=Eh hl a1.2 _ _ h3
 have a3:=Gb hl a2.2 _ _ h5
 exact ⟨by omega,a3.2,by show 1≤_;omega,by show 1≤_;omega,by show 1≤_;omega,by show 1≤_;omega⟩
theorem MvLe.takeS {m:Mov} {n:Nat} (h:MvLe m n) {s:Str} (h1:1≤n):MvLe (takeS m s) n:=⟨h1,h.give,h.ahead,h.back⟩
theorem fl {L:List Tok} (hl:TokEnd L) (hll:L.length≤500000):Sk L (Ga L):=by
 intro m i hm h0 hi m' k h
 unfold Ga at h
 split at h
 ·exact Ii hl hll m i hm h0 hi _ _ h
 split at h
 ·obtain ⟨s,j,h1,h2⟩:=PR.bind_ok h
  have a1:=Gb hl hi _ _ h1
  obtain ⟨c1,c2,c3⟩:=Pr hl hll ((hm.mono (by omega:2*i-1≤2*j)).takeS (by omega)) a1.2 _ _ h2
  exact Zw
 split at h
 ·exact kt hl m i hm h0 hi _ _ h
 split at h
 ·obtain ⟨s,j,h1,h2⟩:=PR.bind_ok h
  obtain ⟨u,j2,h3,h4⟩:=PR.bind_ok h2
  obtain ⟨m1,j3,h5,h6⟩:=PR.bind_ok h4
  have a1:=Gb hl hi _ _ h1
  have a2:=Eh hl a1.2 _ _ h3
  obtain ⟨b1,b2,b3⟩:=N6 hl (Ii hl hll) (takeS m s) j2 ((hm.mono (by omega:2*i-1≤2*j2-1)).takeS (by omega)) (by omega) a2.2 _ _ h5
  obtain ⟨c1,c2,c3⟩:=Pr hl hll b3 b2 _ _ h6
  exact Zw
 split at h
 ·obtain ⟨m1,j,h1,h2⟩:=PR.bind_ok h
  obtain ⟨u,j2,h3,h4⟩:=PR.bind_ok h2
  obtain ⟨m2,j3,h5,h6⟩:=PR.bind_ok h4
  obtain ⟨b1,b2,b3⟩:=N6 hl (Ry hl) m i hm h0 hi _ _ h1
  have e:=Jg h3
  have a2:=Eh hl b2 _ _ h3
  obtain ⟨d1,d2,d3⟩:=Ii hl hll m1 j2 (b3.mono (by omega)) (by omega) a2.2 _ _ h5
  obtain ⟨c1,c2,c3⟩:=Pr hl hll d3 d2 _ _ h6
  exact Zw
 split at h
 ·obtain ⟨m1,j,h1,h2⟩:=PR.bind_ok h
  obtain ⟨d1,d2,d3⟩:=Ii hl hll m i hm h0 hi _ _ h1
  obtain ⟨c1,c2,c3⟩:=Pr hl hll (d3.takeS (by omega)) d2 _ _ h2
  exact Zw
 injection h with h1 h2
 subst h1;subst h2
 exact ⟨Nat.le_refl _,hi,hm.mono (by omega)⟩
theorem ct (L:List Tok) (s:Str) (i o:Nat) (Hp:List AObj) (ho:Hp[o]? = some (pmO L i)) (hi:i<L.length) (hll:L.length≤500000):CP 123 [.ptr o 0,A5 s] Hp (Bq L s i) (fun _ j r H'=>r=Lh∧H'=Hp.set o (pmO L j)) (W1 L o Hp):=by
 refine ⟨fun hX=>?_⟩
 refine ACall.body [] [0,1] Tryz.func123 Tryz.ntmps123 (fun d=>?_)
 refine Z8 ?_;refine R.call Tryz.call162 (ACg L s i o _ (A6 ho) hi) ?_;refine R.go ?_;refine R.fin [0,7] ?_
 refine W.cond (fun ht7=>?_) (fun ht7=>?_)
 ·have hq:isP L s i=false:=by simpa using ht7
  have e:Bq L s i=.bad 8 (A9 L i).at_:=if_neg (by rw [hq];simp)
  exact n8
 have hq:isP L s i=true:=by simpa using ht7
 have e:Bq L s i=.ok () (i+1):=if_pos hq
 refine Z5 ?_;refine Z24 ?_
 refine R.go (h:=Q.loadUp ho) (hr:=?_)
 refine Z22 ?_
 refine R.storeUp jS ho ?_ ?_
 ·simp
 refine R.fin [] ?_;exact K.finN .nores (hp:=⟨(),i+1,e,rfl,rfl⟩)

theorem ku (L:List Tok) (i o:Nat) (Hp:List AObj) (ho:Hp[o]? = some (pmO L i)) (hi:i<L.length) (hll:L.length≤500000):CP 156 [.ptr o 0] Hp (F7 L i) (fun s j r H'=>r=A5 s∧H'=Hp.set o (pmO L j)) (W1 L o Hp):=by
 refine ⟨fun hX=>?_⟩
 refine ACall.body [.tmp 2] [0] Tryz.func156 Tryz.ntmps156 (fun d=>?_)
 refine Z42 ?_;refine x9 ?_;refine Z17 ?_;refine Ib ?_;refine Z34 ?_;refine R.fin [0,3,8] ?_
 refine W.cond (fun ht8=>?_) (fun ht8=>?_)
 ·have e:F7 L i=.bad 8 (A9 L i).at_:=if_pos ht8
  exact n8
 have e:F7 L i=.ok (A9 L i).text (i+1):=if_neg (by rw [ht8];simp)
 refine Z85 ?_
 refine R.go (h:=Q.loadUp ho) (hr:=?_)
 refine Z22 ?_
 refine R.storeUp jS ho ?_ ?_
 ·simp
 refine R.fin [3] ?_;refine Z20 ?_;refine Z3 ?_;exact K.fin (V.one V.tmp) (hp:=⟨_,i+1,e,rfl,rfl⟩)

theorem getset {Hp:List AObj} {o:Nat} {A B:AObj} (h:Hp[o]? = some A):(Hp.set o B)[o]? = some B:=by
 have:=(List.getElem?_eq_some_iff.1 h).1
 simp [this]
theorem AEj (L:List Tok) (i o:Nat) (Hp:List AObj) (ho:Hp[o]? = some (pmO L i)) (hi:i<L.length) (hl:TokEnd L) (hll:L.length≤500000):CP 177 [.ptr o 0] Hp (Hn L i) (fun c j r H'=>r=An c∧H'=Hp.set o (pmO L j)) (W1 L o Hp):=by
 refine ⟨fun hX=>?_⟩
 refine ACall.body [.cell 2 58] [0] Tryz.func177 Tryz.ntmps177 (fun d=>?_)
 refine Z64 ?_
 rcases hN:F7 L i with ⟨s,j⟩|⟨e,a⟩
 rotate_left
 ·exact (Bo hX (by first|exact by unfold Hn;rw [hN];rfl|exact hN)).elim
 have hj:j<L.length:=(Gb hl hi _ _ hN).2
 have e0:Hn L i=fg L s j:=by unfold Hn;rw [hN];rfl
 refine Z2 ?_;refine R.callUp (x:=pmO L j) Tryz.call156 ho (by simp) Cj ((ku L i o _ (A6 ho) hi hll).ok hN) ?_;refine Wo ?_;refine Wi ?_;refine Z2 ?_;refine R.call Tryz.call88 (c88 L j o _ (A6 (getset ho)) hj) ?_;refine Z17 ?_;refine R.fin [0,2,3,4] ?_;refine Z8 ?_;refine R.call Tryz.call198 (ADh (A9 L j).text _) ?_;refine Z97 ?_;refine R.fin [0,2,3,4] ?_;refine Z1 ?_;refine Z30 ?_;refine Z70 ?_;refine R.fin [0,2,3,21] ?_
 refine W.cond (fun ht21=>?_) (fun ht21=>?_)
 ·have e:Hn L i=.bad 8 (A9 L j).at_:=by rw [e0];exact if_pos ht21
  exact n8
 have e:Hn L i=.ok ⟨s,Ot (A9 L j).text⟩ (j+1):=by rw [e0];exact if_neg (by rw [ht21];simp)
 refine Z85 ?_
 refine R.go (h:=Q.loadUp (getset ho)) (hr:=?_)
 refine Z22 ?_
 refine R.storeUp jS (getset ho) ?_ ?_
 ·simp
 refine Fs ?_;refine Z2 ?_;refine Z13 ?_;exact K.fin (V.one (V.cellN jA jS)) (hp:=⟨_,j+1,e,rfl,by rw [List.set_set];rfl⟩)

theorem ACh (L:List Tok) (i o:Nat) (Hp:List AObj) (ho:Hp[o]? = some (pmO L i)) (hi:i<L.length) (hl:TokEnd L) (hll:L.length≤500000):CP 178 [.ptr o 0] Hp (Jl L i) (fun c j r H'=>r=A4 c∧H'=Hp.set o (pmO L j)) (W1 L o Hp):=by
 refine ⟨fun hX=>?_⟩
 refine ACall.body [.cell 2 45] [0] Tryz.func178 Tryz.ntmps178 (fun d=>?_)
 refine Z64 ?_;refine W.drawY [0,1,3,7,0,16,48,112,255,511,1023,1023,1023,0,0,26623,61439,131071] [] [.q 13 [] [],.s [3] none [] [],.s [5] none [] [],.s [3] none [] [],.q 1 [] [],.s [5] none [] []] (fun _=>Hp) (fun _=>[.cells 45 [A2 0,A5 [],A2 0,A2 0,A5 [],.nil]]) Ac (by kernel_rfl) rfl rfl (fun _=>rfl) ?_
 apply Y.q
 case h1 =>
  intro B hT hF
  refine Z44 ?_
  refine D.go (h:=Q.loadUp ho) (hr:=?_)
  refine Z44 ?_
  refine D.go (h:=Q.loadUp ho) (hr:=?_)
  refine D.call Tryz.call199 (ADx L i hi hl hll (fun n Dv h1 h2=>km hl (by omega) n Dv h1 h2) _) ?_;exact mj
 case hTF=>decide
 refine Y.allocP Tryz.zeroValue45 ?_;refine Y.allocP Tryz.zeroValue60 ?_;refine Y.storeP Tryz.sizeOf45 ?_
 apply Y.q
 case h1 =>
  intro B hT hF
  exact Z90
 case hTF=>decide
 refine Y.storeP Tryz.sizeOf60 ?_;refine Y.tail (tn:=[])  ?_;refine R.fin [0,2,3,4,5] ?_;refine Z34 ?_;refine R.fin [0,2,3,4,5,21] ?_
 refine W.cond (fun ht21=>?_) (fun ht21=>?_)
 ·have e:Jl L i=.bad (atM L i).2.2.1 (atM L i).2.2.2:=if_pos ht21
  exact n8
 obtain ⟨k,hk,hkl⟩:=uk hl (by omega) hi (by simpa using ht21)
 have e:Jl L i=.ok (atM L i).1 k:=(if_neg (by rw [ht21];simp)).trans (by rw [hk];rfl)
 rw [hk]
 refine Z5 ?_;refine Z43 ?_
 refine R.storeUp jS ho ?_ ?_
 ·simp
 refine Fs ?_;refine Z2 ?_;refine Z13 ?_;exact K.fin (V.one (V.cellN jA jS)) (hp:=⟨_,k,e,(A7 _).symm,rfl⟩) (hlow:=by have:=Ae Hp.length (atM L i).1;rw [A7] at this;exact this)

/-- The parser's object and the move's, turned. -/
def U2 (L:List Tok) (Hp:List AObj) (o om i:Nat) (x:AObj):List AObj:=(Hp.set o (pmO L i)).set om x
theorem U2_len {L:List Tok} {Hp:List AObj} {o om i:Nat} {x:AObj}:(U2 L Hp o om i x).length=Hp.length:=by simp [U2]
theorem Dp {L:List Tok} {Hp:List AObj} {o om i:Nat} {x z:AObj} (hm:Hp[om]? = some z):(U2 L Hp o om i x)[om]? = some x:=gB hm
theorem Cu {L:List Tok} {Hp:List AObj} {o om i:Nat} {x z:AObj} (ho:Hp[o]? = some z) (hne:om≠o):(U2 L Hp o om i x)[o]? = some (pmO L i):=gA ho hne
theorem Dk {L:List Tok} {Hp:List AObj} {o om i j:Nat} {x:AObj} (hne:om≠o):(U2 L Hp o om i x).set o (pmO L j)=U2 L Hp o om j x:=qf hne
theorem U2_setm {L:List Tok} {Hp:List AObj} {o om i:Nat} {x y:AObj}:(U2 L Hp o om i x).set om y=U2 L Hp o om i y:=List.set_set ..
theorem N7 {L:List Tok} {Hp:List AObj} {o om i:Nat} {x:AObj} (ho:Hp[o]? = some (pmO L i)) (hm:Hp[om]? = some x):U2 L Hp o om i x=Hp:=by unfold U2;rw [F3 ho,F3 hm]
theorem F1 {L:List Tok} {Hp:List AObj} {o om i q:Nat} {x:AObj} (h1:q≠o) (h2:q≠om):(U2 L Hp o om i x)[q]? = Hp[q]? := by unfold U2;rw [List.getElem?_set_ne (Ne.symm h2),List.getElem?_set_ne (Ne.symm h1)]
def W2 (L:List Tok) (o om:Nat) (Hp H':List AObj):Prop:=∃j m,H'=U2 L Hp o om j (mvO m)
theorem Mb {n k:Nat} {o:Bool} {l:List Expr} {x:Expr}:Low n (.slice o k (l.map A4++[.agg (Bi x)])):=by
 rw [show AV.agg (Bi x)=A4 x from (A7 x).symm];exact Ff
theorem Ei {n:Nat} {m:Mov}:ObjLow n (mvO m):=by
 show ∀y∈mvC m,Low n y
 intro y hy
 simp only [mvC,List.mem_cons,List.not_mem_nil,or_false] at hy
 rcases hy with rfl|rfl|rfl|rfl|rfl
 all_goals first|exact Bj|simp [or_imp,forall_and]
theorem kv {L:List Tok} {Hp:List AObj} {o om i:Nat} {m:Mov} {c:Col} {x:AObj}:(U2 L Hp o om i x).set om (.cells 64 [A2 m.kind,.slice true 1 (m.take.map A5),.slice true 2 (m.give.map An++[An c]),.slice true 6 (m.ahead.map A4),.slice true 6 (m.back.map A4)])=U2 L Hp o om i (mvO (Cc m c)):=by
 rw [U2_setm];simp only [mvO,mvC,Cc,List.map_append,List.map_cons,List.map_nil]
theorem kw {L:List Tok} {Hp:List AObj} {o om i:Nat} {m:Mov} {e:Expr} {x:AObj}:(U2 L Hp o om i x).set om (.cells 64 [A2 m.kind,.slice true 1 (m.take.map A5),.slice true 2 (m.give.map An),.slice true 6 (m.ahead.map A4++[.agg (Bi e)]),.slice true 6 (m.back.map A4)])=U2 L Hp o om i (mvO (fh m e)):=by
 rw [U2_setm,show AV.agg (Bi e)=A4 e from (A7 e).symm];simp only [mvO,mvC,fh,List.map_append,List.map_cons,List.map_nil]
theorem kx {L:List Tok} {Hp:List AObj} {o om i:Nat} {m:Mov} {e:Expr} {x:AObj}:(U2 L Hp o om i x).set om (.cells 64 [A2 m.kind,.slice true 1 (m.take.map A5),.slice true 2 (m.give.map An),.slice true 6 (m.ahead.map A4),.slice true 6 (m.back.map A4++[.agg (Bi e)])])=U2 L Hp o om i (mvO (fj m e)):=by
 rw [U2_setm,show AV.agg (Bi e)=A4 e from (A7 e).symm];simp only [mvO,mvC,fj,List.map_append,List.map_cons,List.map_nil]
theorem ky {L:List Tok} {Hp:List AObj} {o om i:Nat} {m:Mov} {s:Str} {x:AObj}:(U2 L Hp o om i x).set om (.cells 64 [A2 m.kind,.slice true 1 (m.take.map A5++[A5 s]),.slice true 2 (m.give.map An),.slice true 6 (m.ahead.map A4),.slice true 6 (m.back.map A4)])=U2 L Hp o om i (mvO (fk m s)):=by
 rw [U2_setm];simp only [mvO,mvC,fk,List.map_append,List.map_cons,List.map_nil]

theorem vo (L:List Tok) (m:Mov) (i o om:Nat) (Hp:List AObj) (hne:om≠o) (ho:Hp[o]? = some (pmO L i)) (hm:Hp[om]? = some (mvO m)) (hi:i<L.length) (hl:TokEnd L) (hll:L.length≤500000) (hb:MvLe m (2*i-1)):CP 155 [.ptr o 0,.ptr om 0] Hp (Da L m i) (fun m' j r H'=>r=Lh∧H'=U2 L Hp o om j (mvO m')) (W2 L o om Hp):=by
 refine ⟨fun hX=>?_⟩
 have:=hb.take;have:=hb.give;have:=hb.ahead;have:=hb.back
 refine ACall.body [] [0,1] Tryz.func155 Tryz.ntmps155 (fun d=>?_)
 rcases hC:Hn L i with ⟨c,j⟩|⟨e,a⟩
 rotate_left
 ·exact (Bo hX (by first|exact by unfold Da;rw [hC];rfl|exact hC)).elim
 have hj:=Ud hl hi _ _ hC
 refine W.drawY [0,0,2,6,14,0,32,96,254,511,1023,2047] [4,6] [.q 4 [] [],.s [8] (some 0) [] [],.q 1 [] [1],.s [10] (some 1) [] [],.q 1 [1] [],.s [8,12] none [0,1] []] (fun B=>U2 L Hp o om (if B 1=true then j else i) (if B 0=true then .cells 64 [A2 m.kind,.slice true 1 (m.take.map A5),.slice false 2 (m.give.map An),.slice true 6 (m.ahead.map A4),.slice true 6 (m.back.map A4)] else .cells 64 [A2 m.kind,.slice true 1 (m.take.map A5),.slice true 2 (m.give.map An),.slice true 6 (m.ahead.map A4),.slice true 6 (m.back.map A4)])) (fun _=>[]) Ac (by kernel_rfl) (N7 ho hm) rfl (fun B=>U2_len) ?_
 apply Y.q
 case h1 =>
  intro B hT hF
  exact mj
 case hTF=>decide
 refine Y.loadUpT (o:=om) (t':=64) (cs:=[A2 m.kind,.slice true 1 (m.take.map A5),.slice true 2 (m.give.map An),.slice true 6 (m.ahead.map A4),.slice true 6 (m.back.map A4)]) (cs':=[A2 m.kind,.slice true 1 (m.take.map A5),.slice false 2 (m.give.map An),.slice true 6 (m.ahead.map A4),.slice true 6 (m.back.map A4)]) Tryz.isAgg22 (fun B hB=>⟨by simp only [hB];exact Dp hm,U2_setm.symm,rfl⟩) ?_
 apply Y.q
 case h1 =>
  intro B hT hF
  exact Z90
 case hTF=>decide
 refine Y.callUp (r:=An c) (o:=o) (x0:=pmO L i) (x:=pmO L j) Tryz.call177 (fun B hB1 hB2 hB=>⟨by simp only [hB];exact Cu ho hne,(Dk hne).symm,rfl,Cj,?_⟩) ?_
 ·simp only [hB]
  exact (AEj L i o _ (A6 (Cu ho hne)) hi hl hll).ok hC
 apply Y.q
 case h1 =>
  intro B hT hF
  exact Z47
 case hTF=>decide
 refine Y.append jU Tryz.type58 ?_ ?_ ?_
 ·simp [Tryz.t58];omega
 ·simp [Tryz.t58];omega
 refine Y.tail (tn:=[4,6]) (U:=U2 L Hp o om j (.cells 64 [A2 m.kind,.slice true 1 (m.take.map A5),.slice false 2 (m.give.map An),.slice true 6 (m.ahead.map A4),.slice true 6 (m.back.map A4)])) ?_;refine Z0 ?_
 refine R.storeUpT jS (Dp hm) ?_ ?_
 ·simp [or_imp,forall_and]
 refine R.fin [0,1] ?_;refine AW.upEq (kv (m:=m) (c:=c)) ?_
 rcases hW:Bq L [61] j with ⟨u,j2⟩|⟨e,a⟩
 rotate_left
 ·exact (Bo hX (by first|exact by unfold Da;rw [hC];show (Bq L [61] j).bind _=_;rw [hW];rfl|exact hW)).elim
 have hj2:=Eh hl hj.2 _ _ hW
 refine Z2 ?_;refine R.callUp (x:=pmO L j2) Tryz.call123 (Cu ho hne) (by simp) Cj ((ct L [61] j o _ (A6 (Cu ho hne)) hj.2 hll).ok hW) ?_
 rw [Dk hne]
 refine R.fin [0,1] ?_
 rcases hT:Jl L j2 with ⟨x,k⟩|⟨e,a⟩
 rotate_left
 ·exact (Bo hX (by first|exact by unfold Da;rw [hC];show (Bq L [61] j).bind _=_;rw [hW];show (Jl L j2).bind _=_;rw [hT];rfl|exact hT)).elim
 have hk:=N5 hl hll hj2.2 hT
 refine W.drawT0 [0,1,3,7,0,16,15,0,255,511,1023,511,2559,6655] [3,5] [.q 3 [] [0],.s [20] (some 0) [] [],.q 1 [] [1],.s [22] (some 1) [] [],.q 2 [] []] (fun B=>U2 L Hp o om (if B 1=true then k else j2) (if B 0=true then .cells 64 [A2 (Cc m c).kind,.slice true 1 ((Cc m c).take.map A5),.slice true 2 ((Cc m c).give.map An),.slice false 6 ((Cc m c).ahead.map A4),.slice true 6 ((Cc m c).back.map A4)] else .cells 64 [A2 (Cc m c).kind,.slice true 1 ((Cc m c).take.map A5),.slice true 2 ((Cc m c).give.map An),.slice true 6 ((Cc m c).ahead.map A4),.slice true 6 ((Cc m c).back.map A4)])) (fun _=>[]) Ac (by kernel_rfl) rfl rfl (fun B=>by rw [U2_len];exact U2_len.symm) ?_
 apply Y.q
 case h1 =>
  intro B hT hF
  refine Z44 ?_;exact V4
 case hTF=>decide
 refine Y.loadUpT (o:=om) (t':=64) (cs:=[A2 (Cc m c).kind,.slice true 1 ((Cc m c).take.map A5),.slice true 2 ((Cc m c).give.map An),.slice true 6 ((Cc m c).ahead.map A4),.slice true 6 ((Cc m c).back.map A4)]) (cs':=[A2 (Cc m c).kind,.slice true 1 ((Cc m c).take.map A5),.slice true 2 ((Cc m c).give.map An),.slice false 6 ((Cc m c).ahead.map A4),.slice true 6 ((Cc m c).back.map A4)]) Tryz.isAgg43 (fun B hB=>⟨by simp only [hB];exact Dp hm,U2_setm.symm,rfl⟩) ?_
 apply Y.q
 case h1 =>
  intro B hT hF
  exact Z90
 case hTF=>decide
 refine Y.callUp (r:=A4 x) (o:=o) (x0:=pmO L j2) (x:=pmO L k) Tryz.call178 (fun B hB1 hB2 hB=>⟨by simp only [hB];exact Cu ho hne,(Dk hne).symm,rfl,Cj,?_⟩) ?_
 ·simp only [hB]
  exact (ACh L j2 o _ (A6 (Cu ho hne)) hj2.2 hl hll).ok hT
 apply Y.q
 case h1 =>
  intro B hT hF
  exact mi
 case hTF=>decide
 refine Y.appendPut4 (tn:=[3,5]) (U:=U2 L Hp o om k (.cells 64 [A2 (Cc m c).kind,.slice true 1 ((Cc m c).take.map A5),.slice true 2 ((Cc m c).give.map An),.slice false 6 ((Cc m c).ahead.map A4),.slice true 6 ((Cc m c).back.map A4)])) (O:=[]) (o:=om) (t':=64) (cs:=[A2 (Cc m c).kind,.slice true 1 ((Cc m c).take.map A5),.slice true 2 ((Cc m c).give.map An),.slice false 6 ((Cc m c).ahead.map A4),.slice true 6 ((Cc m c).back.map A4)]) (by kernel_rfl) jU Tryz.type45 Tryz.sizeOf45 Tryz.sizeOf43 jU (A6 (Dp hm)) ?_ ?_ ?_ (hfsz:=Tryz.sizeOf43)
 ·simp [Tryz.t45,Cc];omega
 ·simp [Tryz.t45,Cc];omega
 refine Z0 ?_
 refine R.storeUpT jS (Dp hm) ?_ ?_
 ·exact Mb
 refine R.fin [] ?_;exact K.finN .nores (hp:=⟨fh (Cc m c) x,k,by unfold Da;rw [hC];show (Bq L [61] j).bind _=_;rw [hW];show (Jl L j2).bind _=_;rw [hT];rfl,rfl,by exact kw (m:=Cc m c)⟩)

/-- What is asked of a part of a move that is a closure. -/
def fm (L:List Tok) (o om g:Nat) (caps:List AV) (Hp:List AObj) (one:Mov→Nat→PR Mov):Prop:=
 ∀m i,MvLe m (2*i-1)→0<i→i<L.length→CP g caps (U2 L Hp o om i (mvO m)) (one m i) (fun m' j r H'=>r=Lh∧H'=U2 L Hp o om j (mvO m')) (W2 L o om Hp)
theorem Hh {L:List Tok} {Hp:List AObj} {o om i j:Nat} {x y:AObj} (hne:om≠o):U2 L (U2 L Hp o om i x) o om j y=U2 L Hp o om j y:=by
 unfold U2
 rw [qf hne,List.set_set]
theorem qw {L:List Tok} {Hp H':List AObj} {o om i:Nat} {x:AObj} (hne:om≠o) (h:W2 L o om (U2 L Hp o om i x) H'):W2 L o om Hp H':=by
 obtain ⟨j,m,e⟩:=h
 exact ⟨j,m,by rw [e,Hh hne]⟩
theorem AEk (L:List Tok) (m:Mov) (i o om bp bm:Nat) (Hp:List AObj) (hne:om≠o) (ho:Hp[o]? = some (pmO L i)) (hm:Hp[om]? = some (mvO m)) (hbp:Hp[bp]? = some (.cells 94 [.ptr o 0])) (hbm:Hp[bm]? = some (.cells 155 [.ptr om 0])) (hi:i<L.length) (hl:TokEnd L) (hll:L.length≤500000) (hb:MvLe m (2*i-1)):CP 179 [.ptr bm 0,.ptr bp 0] Hp (P4 L m i) (fun m' j r H'=>r=Lh∧H'=U2 L Hp o om j (mvO m')) (W2 L o om Hp):=by
 refine ⟨fun hX=>?_⟩
 have n1:bp≠o:=fun e=>by rw [e,ho] at hbp;simp at hbp
 have n2:bp≠om:=fun e=>by rw [e,hm] at hbp;simp at hbp
 have n3:bm≠o:=fun e=>by rw [e,ho] at hbm;simp at hbm
 have n4:bm≠om:=fun e=>by rw [e,hm] at hbm;simp at hbm
 have:=hb.take;have:=hb.give;have:=hb.ahead;have:=hb.back
 refine ACall.body [] [0,1] Tryz.func179 Tryz.ntmps179 (fun d=>?_)
 refine W.flip Ac (by kernel_rfl) Tryz.zeroValue4 Tryz.sizeOf4 Tryz.isAgg4 (fun fb=>?_)
 refine AW.keep [0,1,3] (by simp only [go_sem,↓reduceIte,Nat.reduceEqDiff,Nat.reduceAdd]<;>rfl) ?_
 refine W.cond (fun ht3=>?_) (fun ht3=>?_)
 ·rcases hT:Jl L i with ⟨x,k⟩|⟨e,a⟩
  rotate_left
  ·exact ABb
  have hk:=N5 hl hll hi hT
  refine W.drawZ0 [0,1,3,7,0,16,15,0,255,511,1023,2047] [3,5] [.q 3 [] [0],.s [7] (some 0) [] [],.q 1 [] [1],.s [9] (some 1) [] [],.q 2 [] []] (fun B=>U2 L Hp o om (if B 1=true then k else i) (if B 0=true then .cells 64 [A2 m.kind,.slice true 1 (m.take.map A5),.slice true 2 (m.give.map An),.slice true 6 (m.ahead.map A4),.slice false 6 (m.back.map A4)] else .cells 64 [A2 m.kind,.slice true 1 (m.take.map A5),.slice true 2 (m.give.map An),.slice true 6 (m.ahead.map A4),.slice true 6 (m.back.map A4)])) (fun _=>[.cells 4 [.v (.bool fb)]]) Ac (by kernel_rfl) (N7 ho hm) rfl (fun B=>U2_len) ?_
  apply Y.q
  case h1 =>
   intro B hT hF
   refine D.go (h:=Q.loadUp ((F1 n3 n4).trans hbm)) (hr:=?_)
   exact Z87
  case hTF=>decide
  refine Y.loadUpT (o:=om) (t':=64) (cs:=[A2 m.kind,.slice true 1 (m.take.map A5),.slice true 2 (m.give.map An),.slice true 6 (m.ahead.map A4),.slice true 6 (m.back.map A4)]) (cs':=[A2 m.kind,.slice true 1 (m.take.map A5),.slice true 2 (m.give.map An),.slice true 6 (m.ahead.map A4),.slice false 6 (m.back.map A4)]) Tryz.isAgg43 (fun B hB=>⟨by simp only [hB];exact Dp hm,U2_setm.symm,rfl⟩) ?_
  apply Y.q
  case h1 =>
   intro B hT hF
   refine D.go (h:=Q.loadUp ((F1 n1 n2).trans hbp)) (hr:=?_)
   exact V4
  case hTF=>decide
  refine Y.callUp (r:=A4 x) (o:=o) (x0:=pmO L i) (x:=pmO L k) Tryz.call178 (fun B hB1 hB2 hB=>⟨by simp only [hB];exact Cu ho hne,(Dk hne).symm,rfl,Cj,?_⟩) ?_
  ·simp only [hB]
   exact ABc
  apply Y.q
  case h1 =>
   intro B hT hF
   exact mi
  case hTF=>decide
  refine Y.put2 (tn:=[3,5]) (U:=U2 L Hp o om k (.cells 64 [A2 m.kind,.slice true 1 (m.take.map A5),.slice true 2 (m.give.map An),.slice true 6 (m.ahead.map A4),.slice false 6 (m.back.map A4)])) (O:=[.cells 4 [.v (.bool fb)]]) (o:=om) (t':=64) (cs:=[A2 m.kind,.slice true 1 (m.take.map A5),.slice true 2 (m.give.map An),.slice true 6 (m.ahead.map A4),.slice false 6 (m.back.map A4)]) jU Tryz.type45 Tryz.sizeOf45 Tryz.sizeOf43 jU (A6 (Dp hm)) ?_ ?_ ?_ (hfsz:=Tryz.sizeOf43)
  ·simp [Tryz.t45];omega
  ·simp [Tryz.t45];omega
  refine Z0 ?_
  refine R.storeUpT jS (Dp hm) ?_ ?_
  ·exact Mb
  exact zt
 rcases hT:Jl L i with ⟨x,k⟩|⟨e,a⟩
 rotate_left
 ·exact ABb
 have hk:=N5 hl hll hi hT
 refine W.drawY0 [0,0,2,6,14,0,32,96,254,511,1023,2047] [4,6] [.q 4 [] [],.s [20] (some 0) [] [],.q 1 [] [1],.s [22] (some 1) [] [],.q 1 [1] [],.s [20,24] none [0,1] []] (fun B=>U2 L Hp o om (if B 1=true then k else i) (if B 0=true then .cells 64 [A2 m.kind,.slice true 1 (m.take.map A5),.slice true 2 (m.give.map An),.slice true 6 (m.ahead.map A4),.slice false 6 (m.back.map A4)] else .cells 64 [A2 m.kind,.slice true 1 (m.take.map A5),.slice true 2 (m.give.map An),.slice true 6 (m.ahead.map A4),.slice true 6 (m.back.map A4)])) (fun _=>[.cells 4 [.v (.bool fb)]]) Ac (by kernel_rfl) (N7 ho hm) rfl (fun B=>U2_len) ?_
 apply Y.q
 case h1 =>
  intro B hT hF
  refine D.go (h:=Q.loadUp ((F1 n3 n4).trans hbm)) (hr:=?_)
  refine D.go (h:=Q.loadUp ((F1 n3 n4).trans hbm)) (hr:=?_)
  exact Z87
 case hTF=>decide
 refine Y.loadUpT (o:=om) (t':=64) (cs:=[A2 m.kind,.slice true 1 (m.take.map A5),.slice true 2 (m.give.map An),.slice true 6 (m.ahead.map A4),.slice true 6 (m.back.map A4)]) (cs':=[A2 m.kind,.slice true 1 (m.take.map A5),.slice true 2 (m.give.map An),.slice true 6 (m.ahead.map A4),.slice false 6 (m.back.map A4)]) Tryz.isAgg43 (fun B hB=>⟨by simp only [hB];exact Dp hm,U2_setm.symm,rfl⟩) ?_
 apply Y.q
 case h1 =>
  intro B hT hF
  refine D.go (h:=Q.loadUp ((F1 n1 n2).trans hbp)) (hr:=?_)
  exact V4
 case hTF=>decide
 refine Y.callUp (r:=A4 x) (o:=o) (x0:=pmO L i) (x:=pmO L k) Tryz.call178 (fun B hB1 hB2 hB=>⟨by simp only [hB];exact Cu ho hne,(Dk hne).symm,rfl,Cj,?_⟩) ?_
 ·simp only [hB]
  exact ABc
 apply Y.q
 case h1 =>
  intro B hT hF
  exact Z47
 case hTF=>decide
 refine Y.append jU Tryz.type45 ?_ ?_ ?_
 ·simp [Tryz.t45];omega
 ·simp [Tryz.t45];omega
 refine Y.tail (tn:=[4,6]) (U:=U2 L Hp o om k (.cells 64 [A2 m.kind,.slice true 1 (m.take.map A5),.slice true 2 (m.give.map An),.slice true 6 (m.ahead.map A4),.slice false 6 (m.back.map A4)])) ?_;refine Z0 ?_
 refine R.storeUpT jS (Dp hm) ?_ ?_
 ·exact Mb
 exact zt

theorem Gc {L:List Tok} {Hp:List AObj} {o om i j n:Nat} {x y:AObj} (hne:om≠o) (hy:ObjLow n y) (h:∀z∈U2 L Hp o om i x,ObjLow n z):∀z∈U2 L Hp o om j y,ObjLow n z:=by
 intro z hz
 rw [show U2 L Hp o om j y=((U2 L Hp o om i x).set o (pmO L j)).set om y by rw [Dk hne,U2_setm]] at hz
 rcases List.mem_or_eq_of_mem_set hz with hz|rfl
 ·rcases List.mem_or_eq_of_mem_set hz with hz|rfl
  ·exact h z hz
  exact Cj
 exact hy
theorem D5 {L:List Tok} {Hp own:List AObj} {o om i:Nat} {x:AObj} (h1:o<Hp.length) (h2:om<Hp.length):U2 L (Hp++own) o om i x=U2 L Hp o om i x++own:=by
 unfold U2
 rw [List.set_append_left _ _ h1,List.set_append_left _ _ (by simpa using h2)]
/-- Where the loop of things with commas between stands. -/
structure ListAt (L:List Tok) (n:Int) (one:Mov→Nat→PR Mov) (X:PR Mov) (x:Nat×Mov×Nat):Prop where
 lt:x.2.2<L.length
 pos:0<x.2.2
 le:MvLe x.2.1 (2*x.2.2)
 k:x.1≤x.2.2
 fuel:∃f,X=N3 L n one f x.1 x.2.1 x.2.2∧L.length-x.2.2<f
theorem ListAt.step {L:List Tok} {n:Int} {one:Mov→Nat→PR Mov} {X:PR Mov} {x:Nat×Mov×Nat} (h:ListAt L n one X x) (hq:P3 L n x.1 x.2.2=true):∃f,X=((Bq L [44] x.2.2).bind fun _ j=>(one x.2.1 j).bind fun m j=>N3 L n one f (x.1+1) m j)∧L.length-x.2.2<f+1:=by
 obtain ⟨f,e,hf⟩:=h.fuel
 obtain ⟨f,rfl⟩:∃g,f=g+1:=⟨f-1,by omega⟩
 refine ⟨f,?_,hf⟩
 rw [e,N3,if_pos hq]
theorem ListAt.on {L:List Tok} (hl:TokEnd L) {n:Int} {one:Mov→Nat→PR Mov} (hP:Sk L one) {X:PR Mov} {x:Nat×Mov×Nat} (h:ListAt L n one X x) (hq:P3 L n x.1 x.2.2=true) {u:Unit} {j:Nat} (hW:Bq L [44] x.2.2=.ok u j) {m2:Mov} {j2:Nat} (hO:one x.2.1 j=.ok m2 j2):ListAt L n one X (x.1+1,m2,j2)∧x.2.2<j2:=by
 obtain ⟨f,e,hf⟩:=h.step hq
 have h1:=Eh hl h.lt _ _ hW
 have hj:j=x.2.2+1:=by
  unfold Bq at hW
  split at hW
  ·injection hW with _ h;exact h.symm
  cases hW
 obtain ⟨a1,a2,a3⟩:=hP x.2.1 j (h.le.mono (by omega)) (by omega) h1.2 _ _ hO
 have:=h.k
 refine ⟨⟨a2,by show 0<j2;omega,a3,by show x.1+1≤j2;omega,f,?_,by show L.length-j2<f;omega⟩,by omega⟩
 rw [e,hW]
 show (one x.2.1 j).bind _=_
 rw [hO];rfl
theorem ListAt.bad1 {L:List Tok} {n:Int} {one:Mov→Nat→PR Mov} {X:PR Mov} {x:Nat×Mov×Nat} (h:ListAt L n one X x) (hq:P3 L n x.1 x.2.2=true) {e a:Int} (hW:Bq L [44] x.2.2=.bad e a):X=.bad e a:=by
 obtain ⟨f,e,_⟩:=h.step hq
 rw [e,hW];rfl
theorem ListAt.bad2 {L:List Tok} {n:Int} {one:Mov→Nat→PR Mov} {X:PR Mov} {x:Nat×Mov×Nat} (h:ListAt L n one X x) (hq:P3 L n x.1 x.2.2=true) {u:Unit} {j:Nat} (hW:Bq L [44] x.2.2=.ok u j) {e a:Int} (hO:one x.2.1 j=.bad e a):X=.bad e a:=by
 obtain ⟨f,e,_⟩:=h.step hq
 rw [e,hW]
 show (one x.2.1 j).bind _=_
 rw [hO];rfl
theorem ListAt.out {L:List Tok} {n:Int} {one:Mov→Nat→PR Mov} {X:PR Mov} {x:Nat×Mov×Nat} (h:ListAt L n one X x) (hq:P3 L n x.1 x.2.2=false):X=.ok x.2.1 x.2.2:=by
 obtain ⟨f,e,hf⟩:=h.fuel
 obtain ⟨f,rfl⟩:∃g,f=g+1:=⟨f-1,by omega⟩
 rw [e,N3,if_neg (by rw [hq];simp)]
theorem AEl (L:List Tok) (m:Mov) (i o om bp bm:Nat) (Hp:List AObj) (hne:om≠o) (ho:Hp[o]? = some (pmO L i)) (hm:Hp[om]? = some (mvO m)) (hbp:Hp[bp]? = some (.cells 94 [.ptr o 0])) (hbm:Hp[bm]? = some (.cells 155 [.ptr om 0])) (hi:i<L.length) (hl:TokEnd L) (hll:L.length≤500000) (hb:MvLe m (2*i-1)):CP 161 [.ptr bm 0,.ptr bp 0] Hp (N4 L m i) (fun m' j r H'=>r=Lh∧H'=U2 L Hp o om j (mvO m')) (W2 L o om Hp):=by
 refine ⟨fun hX=>?_⟩
 have n1:bp≠o:=fun e=>by rw [e,ho] at hbp;simp at hbp
 have n2:bp≠om:=fun e=>by rw [e,hm] at hbp;simp at hbp
 have n3:bm≠o:=fun e=>by rw [e,ho] at hbm;simp at hbm
 have n4:bm≠om:=fun e=>by rw [e,hm] at hbm;simp at hbm
 have:=hb.take;have:=hb.give;have:=hb.ahead;have:=hb.back
 refine ACall.body [] [0,1] Tryz.func161 Tryz.ntmps161 (fun d=>?_)
 rcases hT:F7 L i with ⟨s,k⟩|⟨e,a⟩
 rotate_left
 ·exact (Bo hX (by first|exact by unfold N4;rw [hT];rfl|exact hT)).elim
 have hk:=Gb hl hi _ _ hT
 refine W.drawY0 [0,0,2,6,14,0,32,96,254,511,1023,2047] [4,6] [.q 4 [] [],.s [6] (some 0) [] [],.q 1 [] [1],.s [8] (some 1) [] [],.q 1 [1] [],.s [6,10] none [0,1] []] (fun B=>U2 L Hp o om (if B 1=true then k else i) (if B 0=true then .cells 64 [A2 m.kind,.slice false 1 (m.take.map A5),.slice true 2 (m.give.map An),.slice true 6 (m.ahead.map A4),.slice true 6 (m.back.map A4)] else .cells 64 [A2 m.kind,.slice true 1 (m.take.map A5),.slice true 2 (m.give.map An),.slice true 6 (m.ahead.map A4),.slice true 6 (m.back.map A4)])) (fun _=>[]) Ac (by kernel_rfl) (N7 ho hm) rfl (fun B=>U2_len) ?_
 apply Y.q
 case h1 =>
  intro B hT hF
  refine D.go (h:=Q.loadUp ((F1 n3 n4).trans hbm)) (hr:=?_)
  refine D.go (h:=Q.loadUp ((F1 n3 n4).trans hbm)) (hr:=?_)
  exact Z87
 case hTF=>decide
 refine Y.loadUpT (o:=om) (t':=64) (cs:=[A2 m.kind,.slice true 1 (m.take.map A5),.slice true 2 (m.give.map An),.slice true 6 (m.ahead.map A4),.slice true 6 (m.back.map A4)]) (cs':=[A2 m.kind,.slice false 1 (m.take.map A5),.slice true 2 (m.give.map An),.slice true 6 (m.ahead.map A4),.slice true 6 (m.back.map A4)]) Tryz.isAgg37 (fun B hB=>⟨by simp only [hB];exact Dp hm,U2_setm.symm,rfl⟩) ?_
 apply Y.q
 case h1 =>
  intro B hT hF
  refine D.go (h:=Q.loadUp ((F1 n1 n2).trans hbp)) (hr:=?_)
  exact V4
 case hTF=>decide
 refine Y.callUp (r:=A5 s) (o:=o) (x0:=pmO L i) (x:=pmO L k) Tryz.call156 (fun B hB1 hB2 hB=>⟨by simp only [hB];exact Cu ho hne,(Dk hne).symm,rfl,Cj,?_⟩) ?_
 ·simp only [hB]
  exact (ku L i o _ (A6 (Cu ho hne)) hi hll).ok hT
 apply Y.q
 case h1 =>
  intro B hT hF
  exact Z47
 case hTF=>decide
 refine Y.append jU Tryz.type9 ?_ ?_ ?_
 ·simp [Tryz.t9];omega
 ·simp [Tryz.t9];omega
 refine Y.tail (tn:=[4,6]) (U:=U2 L Hp o om k (.cells 64 [A2 m.kind,.slice false 1 (m.take.map A5),.slice true 2 (m.give.map An),.slice true 6 (m.ahead.map A4),.slice true 6 (m.back.map A4)])) ?_;refine Z0 ?_
 refine R.storeUpT jS (Dp hm) ?_ ?_
 ·simp [or_imp,forall_and]
 refine R.fin [] ?_;exact K.finN .nores (hp:=⟨fk m s,k,by unfold N4;rw [hT];rfl,rfl,by exact ky⟩)

theorem AEm (L:List Tok) (m:Mov) (i o om bp bm:Nat) (Hp:List AObj) (hne:om≠o) (ho:Hp[o]? = some (pmO L i)) (hm:Hp[om]? = some (mvO m)) (hbp:Hp[bp]? = some (.cells 94 [.ptr o 0])) (hbm:Hp[bm]? = some (.cells 155 [.ptr om 0])) (hi:i<L.length) (hl:TokEnd L) (hll:L.length≤500000) (hb:MvLe m (2*i-1)):CP 160 [.ptr bp 0,.ptr bm 0] Hp (Da L m i) (fun m' j r H'=>r=Lh∧H'=U2 L Hp o om j (mvO m')) (W2 L o om Hp):=by
 refine ⟨fun hX=>?_⟩
 have hol:=(List.getElem?_eq_some_iff.1 ho).1
 have hml:=(List.getElem?_eq_some_iff.1 hm).1
 have n1:bp≠o:=fun e=>by rw [e,ho] at hbp;simp at hbp
 have n2:bp≠om:=fun e=>by rw [e,hm] at hbp;simp at hbp
 have n3:bm≠o:=fun e=>by rw [e,ho] at hbm;simp at hbm
 have n4:bm≠om:=fun e=>by rw [e,hm] at hbm;simp at hbm
 have:=hb.take;have:=hb.give;have:=hb.ahead;have:=hb.back
 refine ACall.body [] [0,1] Tryz.func160 Tryz.ntmps160 (fun d=>?_)
 refine n9 ?_
 rcases hT:Da L m i with ⟨m2,k⟩|⟨e,a⟩
 rotate_left
 ·exact (Bo hX hT).elim
 refine AW.region ?_
 refine R.go (h:=Q.loadUp ((F1 n1 n2).trans hbp)) (hr:=?_)
 refine R.go (h:=Q.loadUp ((F1 n3 n4).trans hbm)) (hr:=?_)
 refine R.callX (up':=U2 L Hp o om k (mvO m2)) (own':=[]) Tryz.call155 (((vo L m i o om _ hne (A6 (Cu ho hne)) (A6 (Dp hm)) hi hl hll hb).ok hT).mono (fun r H' e=>⟨e.1,e.2.trans (by rw [List.append_nil,List.append_nil,Hh hne])⟩)) (by rw [U2_len,U2_len]) (fun h=>Gc hne Ei h) ?_;refine R.fin [] ?_;exact K.finN .nores (hp:=⟨m2,k,rfl,rfl,rfl⟩)

theorem za (L:List Tok) (n:Int) (m:Mov) (i o om g:Nat) (caps:List AV) (one:Mov→Nat→PR Mov) (Hp:List AObj) (hne:om≠o) (ho:Hp[o]? = some (pmO L i)) (hm:Hp[om]? = some (mvO m)) (h0:0<i) (hi:i<L.length) (hl:TokEnd L) (hll:L.length≤500000) (hb:MvLe m (2*i-1)) (hcall:∀args w,(callFunc g args).run Tryz.prog w=.ok (.enter g args) w) (hC:fm L o om g caps Hp one) (hP:Sk L one):CP 159 [.ptr o 0,A2 n,.fn (.func g) [] caps] Hp (G9 L n one m i) (fun m' j r H'=>r=Lh∧H'=U2 L Hp o om j (mvO m')) (W2 L o om Hp):=by
 refine ⟨fun hX=>?_⟩
 have hol:=(List.getElem?_eq_some_iff.1 ho).1
 have hml:=(List.getElem?_eq_some_iff.1 hm).1
 refine ACall.body [] [0,1,2] Tryz.func159 Tryz.ntmps159 (fun d=>?_)
 refine n9 ?_
 rcases h1:one m i with ⟨m1,j1⟩|⟨e,a⟩
 rotate_left
 ·exact (Bo hX (by first|exact by unfold G9;rw [h1];rfl|exact h1)).elim
 have g1:=hP m i hb h0 hi _ _ h1
 have e0:G9 L n one m i=N3 L n one (L.length+1) 1 m1 j1:=by unfold G9;rw [h1];rfl
 refine Z2 ?_
 refine R.callVX (up':=U2 L Hp o om j1 (mvO m1)) (own':=[]) hcall (by rw [List.append_nil,List.append_nil];exact (hC m i hb h0 hi).ok h1) (by rw [U2_len,U2_len]) (fun h=>Gc hne Ei h) ?_
 refine V2 ?_;refine Z2 ?_;refine Zv ?_
 refine AW.loopC (α:=Nat×Mov×Nat) (fun x=>⟨30,A3 0 (.ptr o 0) (A3 1 (A2 n) (A3 2 (.fn (.func g) [] caps) (A3 6 (A2 (x.1:Int)) (fun _=>.any)))),U2 L Hp o om x.2.2 (mvO x.2.1),[],[],none⟩) (fun x=>ListAt L n one (G9 L n one m i) x) (fun x=>L.length-x.2.2) ((1,m1,j1)) ⟨g1.2.1,by show 0<j1;omega,g1.2.2,by show 1≤j1;omega,_,e0,by show L.length-j1<_;omega⟩ (StLe.refl _) rfl (fun x hx=>?_)
 refine Z8 ?_;refine Z62 ?_;refine Z7 ?_;refine G.go ?_;refine G.call Tryz.call162 (fun hB=>ACg L [44] x.2.2 o _ (A6 (Cu ho hne)) hx.lt) ?_;refine V0 ?_;refine R.fin [0,1,2,6,23] ?_
 refine W.cond (fun ht23=>?_) (fun ht23=>?_)
 ·have hq:P3 L n x.1 x.2.2=true:=ht23
  refine Z38 ?_
  rcases hW:Bq L [44] x.2.2 with ⟨u,j⟩|⟨e,a⟩
  rotate_left
  ·exact (Bo hX (by first|exact hx.bad1 hq hW|exact hW)).elim
  have hj:=Eh hl hx.lt _ _ hW
  have hpos:=hx.pos
  refine Z2 ?_;refine R.callUp (x:=pmO L j) Tryz.call123 (Cu ho hne) (by simp) Cj ((ct L [44] x.2.2 o _ (A6 (Cu ho hne)) hx.lt hll).ok hW) ?_
  rw [Dk hne]
  refine Zv ?_
  rcases hO:one x.2.1 j with ⟨m2,j2⟩|⟨e,a⟩
  rotate_left
  ·exact (Bo hX (by first|exact hx.bad2 hq hW hO|exact hO)).elim
  have hon:=hx.on hl hP hq hW hO
  refine Z63 ?_
  refine R.callVX (up':=U2 L Hp o om j2 (mvO m2)) (own':=[]) hcall (by rw [List.append_nil,List.append_nil];exact (hC x.2.1 j (hx.le.mono (by omega)) (by omega) hj.2).ok hO) (by rw [U2_len,U2_len]) (fun h=>Gc hne Ei h) ?_
  refine Zv ?_;refine Z9 ?_;refine Z63 ?_
  refine R.go (h:=Q.add64 (h2:=fun _=>by have:=hx.k;have:=hx.lt;omega)) (hr:=?_)
  refine R.go ?_;refine Zv ?_
  refine K.lpN (x.1+1,m2,j2) hon.1 (by have:=hx.lt;have:=hon.2;show L.length-j2<L.length-x.2.2;omega) (StCut.of_eq rfl)
 have hq:P3 L n x.1 x.2.2=false:=ht23
 have e:=hx.out hq
 refine ig ?_;exact K.finN .nores (hp:=⟨_,_,e,rfl,rfl⟩)

theorem CP.mono {g:FuncId} {args:List AV} {H:List AObj} {α:Type} {X:PR α} {Q Q':α→Nat→AV→List AObj→Prop} {R R':List AObj→Prop} (h:CP g args H X Q R) (hQ:∀c j r H',Q c j r H'→Q' c j r H') (hR:∀H',R H'→R' H'):CP g args H X Q' R':=
 ⟨fun hX=>(h.run hX).mono (fun r H' ⟨c,j,e,hq⟩=>⟨c,j,e,hQ _ _ _ _ hq⟩)⟩
section
variable {L:List Tok} {o om bp bm:Nat} {X:List AObj} {z z':AObj}
theorem kz (hne:om≠o) (ho:X[o]? = some z) (hm:X[om]? = some z') (hbp:X[bp]? = some (.cells 94 [.ptr o 0])) (hbm:X[bm]? = some (.cells 155 [.ptr om 0])) (n1:bp≠o) (n2:bp≠om) (n3:bm≠o) (n4:bm≠om) (hl:TokEnd L) (hll:L.length≤500000):fm L o om 179 [.ptr bm 0,.ptr bp 0] X (P4 L):=
 fun m i hb _ hi=>(AEk L m i o om bp bm (U2 L X o om i (mvO m)) hne (Cu ho hne) (Dp hm) ((F1 n1 n2).trans hbp) ((F1 n3 n4).trans hbm) hi hl hll hb).mono (fun c j r H' e=>⟨e.1,e.2.trans (Hh hne)⟩) (fun H' h=>qw hne h)
theorem l3 (hne:om≠o) (ho:X[o]? = some z) (hm:X[om]? = some z') (hbp:X[bp]? = some (.cells 94 [.ptr o 0])) (hbm:X[bm]? = some (.cells 155 [.ptr om 0])) (n1:bp≠o) (n2:bp≠om) (n3:bm≠o) (n4:bm≠om) (hl:TokEnd L) (hll:L.length≤500000):fm L o om 161 [.ptr bm 0,.ptr bp 0] X (N4 L):=
 fun m i hb _ hi=>(AEl L m i o om bp bm (U2 L X o om i (mvO m)) hne (Cu ho hne) (Dp hm) ((F1 n1 n2).trans hbp) ((F1 n3 n4).trans hbm) hi hl hll hb).mono (fun c j r H' e=>⟨e.1,e.2.trans (Hh hne)⟩) (fun H' h=>qw hne h)
theorem l4 (hne:om≠o) (ho:X[o]? = some z) (hm:X[om]? = some z') (hbp:X[bp]? = some (.cells 94 [.ptr o 0])) (hbm:X[bm]? = some (.cells 155 [.ptr om 0])) (n1:bp≠o) (n2:bp≠om) (n3:bm≠o) (n4:bm≠om) (hl:TokEnd L) (hll:L.length≤500000):fm L o om 160 [.ptr bp 0,.ptr bm 0] X (Da L):=
 fun m i hb _ hi=>(AEm L m i o om bp bm (U2 L X o om i (mvO m)) hne (Cu ho hne) (Dp hm) ((F1 n1 n2).trans hbp) ((F1 n3 n4).trans hbm) hi hl hll hb).mono (fun c j r H' e=>⟨e.1,e.2.trans (Hh hne)⟩) (fun H' h=>qw hne h)
end
attribute [go_sem] U2_len
theorem l5 {L:List Tok} {Hp own:List AObj} {o om i n:Nat} {x z:AObj} (h:own[n]? = some z):(U2 L Hp o om i x++own)[oid Hp.length n]? = some z:=by
 unfold oid
 rw [List.getElem?_append_right (by rw [U2_len];omega),U2_len,Nat.add_sub_cancel_left]
 exact h
theorem He {n k o:Nat} (h:o<n):oid n k≠o:=by unfold oid;omega
theorem vp (L:List Tok) (m:Mov) (i o om:Nat) (Hp:List AObj) (hne:om≠o) (ho:Hp[o]? = some (pmO L i)) (hm:Hp[om]? = some (mvO m)) (hi:i<L.length) (hl:TokEnd L) (hll:L.length≤500000) (hb:MvLe m (2*i)):CP 157 [.ptr o 0,.ptr om 0] Hp (E9 L m i) (fun m' j r H'=>r=Lh∧H'=U2 L Hp o om j (mvO m')) (W2 L o om Hp):=by
 refine ⟨fun hX=>?_⟩
 have hol:=(List.getElem?_eq_some_iff.1 ho).1
 have hml:=(List.getElem?_eq_some_iff.1 hm).1
 refine ACall.body [] [0,1] Tryz.func157 Tryz.ntmps157 (fun d=>?_)
 refine Zm ?_;refine R.box ?_;refine Fs ?_;refine n9 ?_
 rcases hW:Bq L qv i with ⟨u,j⟩|⟨e,a⟩
 rotate_left
 ·exact (Bo hX (by first|exact by unfold E9;rw [hW];rfl|exact hW)).elim
 have hj:=Eh hl hi _ _ hW
 refine Z2 ?_;refine R.callUp (x:=pmO L j) Tryz.call123 (Cu ho hne) (by simp) Cj ((ct L qv i o _ (A6 (Cu ho hne)) hi hll).ok hW) ?_
 rw [Dk hne]
 refine Fs ?_
 rcases hP:G9 L ((m.take.map A5).length:Int) (P4 L) m j with ⟨m2,k⟩|⟨e,a⟩
 rotate_left
 ·exact (Bo hX (by first|exact by unfold E9;rw [hW];show G9 L _ _ m j=_;rw [←hP,List.length_map]|exact hP)).elim
 refine W.drawQ0 [0,0,2,6,14,30,0,127] 7 Ac (by kernel_rfl) ?_;refine Nh ?_
 refine D.go (h:=Q.loadUp (Dp hm)) (hr:=?_)
 refine D.go ?_;refine D.makeFunc ?_;refine D.tail ?_
 refine R.callX (up':=U2 L Hp o om k (mvO m2)) (own':=[.cells 94 [.ptr o 0],.cells 155 [.ptr om 0]]) Tryz.call159 (((za L (((m.take.map A5).length:Int)) m j o om 179 [.ptr (oid Hp.length 1) 0,.ptr (oid Hp.length 0) 0] (P4 L) (U2 L Hp o om j (mvO m)++[.cells 94 [.ptr o 0],.cells 155 [.ptr om 0]]) hne (A6 (Cu ho hne)) (A6 (Dp hm)) (by omega) hj.2 hl hll (hb.mono (by omega)) Tryz.call179 (kz (z:=pmO L j) (z':=mvO m) hne (A6 (Cu ho hne)) (A6 (Dp hm)) (l5 rfl) (l5 rfl) (He hol) (He hml) (He hol) (He hml) hl hll) (Yp hl hll)).ok hP).mono (fun r H' e=>⟨e.1,e.2.trans (by first|rw [D5 (by rw [U2_len];exact hol) (by rw [U2_len];exact hml),Hh hne]|rw [D5 hol hml])⟩)) (by first|rfl|rw [U2_len,U2_len]|rw [U2_len]) (fun h=>Gc hne Ei h) ?_
 refine R.fin [] ?_;exact K.finN .nores (hp:=⟨m2,k,by unfold E9;rw [hW];show G9 L _ _ m j=_;rw [←hP,List.length_map],rfl,rfl⟩)

theorem Ue {L:List Tok} {Hp:List AObj} {o om i:Nat} {m:Mov} {s:Str} {x:AObj}:(U2 L Hp o om i x).set om (.cells 64 [A2 m.kind,.slice true 1 [A5 s],.slice true 2 (m.give.map An),.slice true 6 (m.ahead.map A4),.slice true 6 (m.back.map A4)])=U2 L Hp o om i (mvO (takeS m s)):=U2_setm
theorem fp {n:Nat} {x:Expr}:Low n (.slice true 6 [.agg (Bi x)]):=by
 have:=Bj (n:=n) (k:=6) (o:=true) (l:=[x])
 simp only [List.map_cons,List.map_nil] at this
 rw [A7] at this
 exact this
theorem Yr {n:Nat} {x:Expr}:Low n (.slice true 6 [A4 x]):=Bj (l:=[x])
theorem qx {L:List Tok} {m m1:Mov} {i k:Nat} (h:Da L m i=.ok m1 k):(m1.give.map An)[0]? = some (An (m1.give.getD 0 ⟨[],0⟩)):=by
 obtain ⟨c,j,h1,h2⟩:=PR.bind_ok h
 obtain ⟨u,j2,h3,h4⟩:=PR.bind_ok h2
 obtain ⟨x,j3,h5,h6⟩:=PR.bind_ok h4
 injection h6 with h6 h7
 subst h6
 show ((m.give++[c]).map An)[0]? = some (An ((m.give++[c]).getD 0 ⟨[],0⟩))
 cases m.give<;>rfl
section
variable {L:List Tok} {m:Mov} {i:Nat}
theorem qy (h1:(m.kind==1)=true):Ga L m i=Da L m i:=if_pos h1
theorem cu (h1:(m.kind==1)=false) (h2:(m.kind==2)=true):Ga L m i=(F7 L i).bind fun s j=>E9 L (takeS m s) j:=by
 unfold Ga;rw [if_neg (by rw [h1];simp),if_pos h2]
theorem qz (h1:(m.kind==1)=false) (h2:(m.kind==2)=false) (h3:(m.kind==3)=true):Ga L m i=Ho L m i:=by
 unfold Ga;rw [if_neg (by rw [h1];simp),if_neg (by rw [h2];simp),if_pos h3]
theorem Rz (h1:(m.kind==1)=false) (h2:(m.kind==2)=false) (h3:(m.kind==3)=false) (h4:(m.kind==4)=true):Ga L m i=(F7 L i).bind fun s j=>(Bq L Hg j).bind fun _ j=>(G9 L 0 (Da L) (takeS m s) j).bind fun m j=>E9 L m j:=by
 unfold Ga;rw [if_neg (by rw [h1];simp),if_neg (by rw [h2];simp),if_neg (by rw [h3];simp),if_pos h4]
theorem S1 (h1:(m.kind==1)=false) (h2:(m.kind==2)=false) (h3:(m.kind==3)=false) (h4:(m.kind==4)=false) (h5:(m.kind==5)=true):Ga L m i=(G9 L 0 (N4 L) m i).bind fun m j=>(Bq L Hg j).bind fun _ j=>(Da L m j).bind fun m j=>E9 L m j:=by
 unfold Ga;rw [if_neg (by rw [h1];simp),if_neg (by rw [h2];simp),if_neg (by rw [h3];simp),if_neg (by rw [h4];simp),if_pos h5]
theorem cv (h1:(m.kind==1)=false) (h2:(m.kind==2)=false) (h3:(m.kind==3)=false) (h4:(m.kind==4)=false) (h5:(m.kind==5)=false) (h6:(m.kind==6)=true):Ga L m i=(Da L m i).bind fun m j=>E9 L (takeS m (m.give.getD 0 ⟨[],0⟩).name) j:=by
 unfold Ga;rw [if_neg (by rw [h1];simp),if_neg (by rw [h2];simp),if_neg (by rw [h3];simp),if_neg (by rw [h4];simp),if_neg (by rw [h5];simp),if_pos h6]
theorem zb (h1:(m.kind==1)=false) (h2:(m.kind==2)=false) (h3:(m.kind==3)=false) (h4:(m.kind==4)=false) (h5:(m.kind==5)=false) (h6:(m.kind==6)=false):Ga L m i=.ok m i:=by
 unfold Ga;rw [if_neg (by rw [h1];simp),if_neg (by rw [h2];simp),if_neg (by rw [h3];simp),if_neg (by rw [h4];simp),if_neg (by rw [h5];simp),if_neg (by rw [h6];simp)]
end
theorem AEn (L:List Tok) (m:Mov) (i o om:Nat) (Hp:List AObj) (hne:om≠o) (ho:Hp[o]? = some (pmO L i)) (hm:Hp[om]? = some (mvO m)) (hi:i<L.length) (hl:TokEnd L) (hll:L.length≤500000) (hb:MvLe m (2*i-1)):CP 158 [.ptr o 0,.ptr om 0] Hp (Ho L m i) (fun m' j r H'=>r=Lh∧H'=U2 L Hp o om j (mvO m')) (W2 L o om Hp):=by
 refine ⟨fun hX=>?_⟩
 refine ACall.body [] [0,1] Tryz.func158 Tryz.ntmps158 (fun d=>?_)
 refine n9 ?_
 rcases h1:F7 L i with ⟨s,j⟩|⟨e,a⟩
 rotate_left
 ·exact (Bo hX (by first|exact by unfold Ho;rw [h1];rfl|exact h1)).elim
 have hj:=Gb hl hi _ _ h1
 refine Z1 ?_;refine R.callUp (x:=pmO L j) Tryz.call156 (Cu ho hne) (by simp) Cj ((ku L i o _ (A6 (Cu ho hne)) hi hll).ok h1) ?_
 rw [Dk hne]
 refine rq ?_
 refine R.storeUpT jS (Dp hm) ?_ ?_
 ·simp [or_imp,forall_and]
 refine R.fin [0,1] ?_;refine AW.upEq (U2_setm (y:=.cells 64 [A2 m.kind,.slice true 1 ([A5 s]),.slice true 2 (m.give.map An),.slice true 6 (m.ahead.map A4),.slice true 6 (m.back.map A4)])) ?_
 rcases h2:Bq L toW j with ⟨u,j2⟩|⟨e,a⟩
 rotate_left
 ·exact (Bo hX (by first|exact by unfold Ho;rw [h1];show (Bq L toW j).bind _=_;rw [h2];rfl|exact h2)).elim
 have hj2:=Eh hl hj.2 _ _ h2
 refine Z2 ?_;refine R.callUp (x:=pmO L j2) Tryz.call123 (Cu ho hne) (by simp) Cj ((ct L toW j o _ (A6 (Cu ho hne)) hj.2 hll).ok h2) ?_
 rw [Dk hne]
 refine R.fin [0,1] ?_
 rcases h3:F7 L j2 with ⟨t,k⟩|⟨e,a⟩
 rotate_left
 ·exact (Bo hX (by first|exact by unfold Ho;rw [h1];show (Bq L toW j).bind _=_;rw [h2];show (F7 L j2).bind _=_;rw [h3];rfl|exact h3)).elim
 refine Z2 ?_;refine R.callUp (x:=pmO L k) Tryz.call156 (Cu ho hne) (by simp) Cj ((ku L j2 o _ (A6 (Cu ho hne)) hj2.2 hll).ok h3) ?_
 rw [Dk hne]
 refine R.go ?_;refine R.fin [1,4] ?_;refine Z1 ?_;refine Wo ?_;refine rq ?_
 refine R.storeUpT jS (Dp hm) ?_ ?_
 ·simp [or_imp,forall_and]
 refine R.fin [1,4] ?_;refine AW.upEq (U2_setm (y:=.cells 64 [A2 m.kind,.slice true 1 ([A5 s]),.slice true 2 ([An ⟨t,0⟩]),.slice true 6 (m.ahead.map A4),.slice true 6 (m.back.map A4)])) ?_;refine Z10 ?_;refine Z22 ?_
 refine R.go (h:=Q.loadUp (Dp hm)) (hr:=?_)
 refine R.go (h:=Q.indexAddr (0) (A5 s) (fun _=>rfl)) (hr:=?_)
 refine R.go ?_;refine R.call Tryz.call130 (uo s _) ?_;refine K4 ?_;refine R.go ?_;refine R.call Tryz.call130 (uo t _) ?_;refine rq ?_
 refine R.storeUpT jS (Dp hm) ?_ ?_
 ·first|exact fp|exact Yr
 rw [U2_setm]
 refine Z0 ?_
 refine R.storeUpT jS (Dp hm) ?_ ?_
 ·first|exact fp|exact Yr
 rw [U2_setm]
 refine R.fin [] ?_;exact K.finN .nores (hp:=⟨⟨m.kind,[s],[⟨t,0⟩],[Ap s],[Ap t]⟩,k,by unfold Ho;rw [h1];show (Bq L toW j).bind _=_;rw [h2];show (F7 L j2).bind _=_;rw [h3];rfl,rfl,by simp only [mvO,mvC,List.map_cons,List.map_nil,A7]⟩)

theorem l6 {L:List Tok} {Hp:List AObj} {o om i:Nat} {m:Mov} {c:Col} {x:AObj}:(U2 L Hp o om i x).set om (.cells 64 [A2 m.kind,.slice true 1 [A5 c.name],.slice true 2 (m.give.map An),.slice true 6 (m.ahead.map A4),.slice true 6 (m.back.map A4)])=U2 L Hp o om i (mvO (takeS m c.name)):=U2_setm
theorem AEo (L:List Tok) (m:Mov) (i o om:Nat) (Hp:List AObj) (hne:om≠o) (ho:Hp[o]? = some (pmO L i)) (hm:Hp[om]? = some (mvO m)) (hi:i<L.length) (hl:TokEnd L) (hll:L.length≤500000) (hb:MvLe m (2*i-1)) (h0:0<i):CP 122 [.ptr o 0,.ptr om 0] Hp (Ga L m i) (fun m' j r H'=>r=Lh∧H'=U2 L Hp o om j (mvO m')) (W2 L o om Hp):=by
 refine ⟨fun hX=>?_⟩
 have hol:=(List.getElem?_eq_some_iff.1 ho).1
 have hml:=(List.getElem?_eq_some_iff.1 hm).1
 refine ACall.body [] [0,1] Tryz.func122 Tryz.ntmps122 (fun d=>?_)
 refine Zm ?_;refine R.box ?_;refine Fs ?_;refine n9 ?_;refine Z20 ?_
 refine R.go (h:=Q.loadUp (Dp hm)) (hr:=?_)
 refine R.fin [2,3,7] ?_;refine Mk ?_;refine R.fin [2,3,7,8] ?_
 refine W.cond (fun ht8=>?_) (fun ht8=>?_)
 ·rcases h1:Da L m i with ⟨m1,k⟩|⟨e,a⟩
  rotate_left
  ·exact (Bo hX (by first|exact by rw [qy ht8];rw [h1]|exact h1)).elim
  refine Z10 ?_
  refine R.callX (up':=U2 L Hp o om k (mvO m1)) (own':=[.cells 94 [.ptr o 0],.cells 155 [.ptr om 0]]) Tryz.call155 (((vo L m i o om (U2 L Hp o om i (mvO m)++[.cells 94 [.ptr o 0],.cells 155 [.ptr om 0]]) hne (A6 (Cu ho hne)) (A6 (Dp hm)) hi hl hll hb).ok h1).mono (fun r H' e=>⟨e.1,e.2.trans (by first|rw [D5 (by rw [U2_len];exact hol) (by rw [U2_len];exact hml),Hh hne]|rw [D5 hol hml])⟩)) (by first|rfl|rw [U2_len,U2_len]|rw [U2_len]) (fun h=>Gc hne Ei h) ?_
  refine Z67 ?_;exact K.finN .nores (hp:=⟨m1,k,by rw [qy ht8];rw [h1],rfl,rfl⟩)
 refine Z1 ?_;refine R.fin [2,3,7,13] ?_
 refine W.cond (fun ht13=>?_) (fun ht13=>?_)
 ·rcases h1:F7 L i with ⟨s,j⟩|⟨e,a⟩
  rotate_left
  ·exact (Bo hX (by first|exact by rw [cu ht8 ht13];rw [h1];rfl|exact h1)).elim
  have hj:=Gb hl hi _ _ h1
  refine W.drawY [0,0,2,6,15,31,63] [2] [.q 2 [] [],.s [17] (some 0) [] [],.s [18] none [0] []] (fun B=>U2 L Hp o om (if B 0=true then j else i) (mvO m)) (fun _=>[.cells 94 [.ptr o 0],.cells 155 [.ptr om 0]]) Ac (by kernel_rfl) rfl rfl (fun B=>by rw [U2_len];exact U2_len.symm) ?_
  apply Y.q
  case h1 =>
   intro B hT hF
   exact Z87
  case hTF=>decide
  refine Y.callUp (r:=A5 s) (o:=o) (x0:=pmO L i) (x:=pmO L j) Tryz.call156 (fun B hB1 hB2 hB=>⟨by simp only [hB];exact Cu ho hne,(Dk hne).symm,rfl,Cj,?_⟩) ?_
  ·simp only [hB]
   exact (ku L i o _ (A6 (Cu ho hne)) hi hll).ok h1
  refine AA5 ?_;refine Z0 ?_
  refine R.storeUpT jS (Dp hm) ?_ ?_
  ·simp [or_imp,forall_and]
  refine Fs ?_;refine AW.upEq (Ue (m:=m) (s:=s)) ?_
  rcases h2:E9 L (takeS m s) j with ⟨m2,k⟩|⟨e,a⟩
  rotate_left
  ·exact (Bo hX (by first|exact by rw [cu ht8 ht13];rw [h1];show E9 L (takeS m s) j=_;rw [h2]|exact h2)).elim
  refine Z10 ?_
  refine R.callX (up':=U2 L Hp o om k (mvO m2)) (own':=[.cells 94 [.ptr o 0],.cells 155 [.ptr om 0]]) Tryz.call157 (((vp L (takeS m s) j o om (U2 L Hp o om j (mvO (takeS m s))++[.cells 94 [.ptr o 0],.cells 155 [.ptr om 0]]) hne (A6 (Cu ho hne)) (A6 (Dp hm)) hj.2 hl hll ((hb.mono (by omega:2*i-1≤2*j)).takeS (by omega))).ok h2).mono (fun r H' e=>⟨e.1,e.2.trans (by first|rw [D5 (by rw [U2_len];exact hol) (by rw [U2_len];exact hml),Hh hne]|rw [D5 hol hml])⟩)) (by first|rfl|rw [U2_len,U2_len]|rw [U2_len]) (fun h=>Gc hne Ei h) ?_
  refine Z67 ?_;exact K.finN .nores (hp:=⟨m2,k,by rw [cu ht8 ht13];rw [h1];show E9 L (takeS m s) j=_;rw [h2],rfl,rfl⟩)
 refine Z1 ?_;refine R.fin [2,3,7,24] ?_
 refine W.cond (fun ht24=>?_) (fun ht24=>?_)
 ·rcases h1:Ho L m i with ⟨m1,k⟩|⟨e,a⟩
  rotate_left
  ·exact (Bo hX (by first|exact by rw [qz ht8 ht13 ht24];rw [h1]|exact h1)).elim
  refine Z10 ?_
  refine R.callX (up':=U2 L Hp o om k (mvO m1)) (own':=[.cells 94 [.ptr o 0],.cells 155 [.ptr om 0]]) Tryz.call158 (((AEn L m i o om (U2 L Hp o om i (mvO m)++[.cells 94 [.ptr o 0],.cells 155 [.ptr om 0]]) hne (A6 (Cu ho hne)) (A6 (Dp hm)) hi hl hll hb).ok h1).mono (fun r H' e=>⟨e.1,e.2.trans (by first|rw [D5 (by rw [U2_len];exact hol) (by rw [U2_len];exact hml),Hh hne]|rw [D5 hol hml])⟩)) (by first|rfl|rw [U2_len,U2_len]|rw [U2_len]) (fun h=>Gc hne Ei h) ?_
  refine Z67 ?_;exact K.finN .nores (hp:=⟨m1,k,by rw [qz ht8 ht13 ht24];rw [h1],rfl,rfl⟩)
 refine Z1 ?_;refine R.fin [2,3,7,29] ?_
 refine W.cond (fun ht29=>?_) (fun ht29=>?_)
 ·rcases h1:F7 L i with ⟨s,j⟩|⟨e,a⟩
  rotate_left
  ·exact (Bo hX (by first|exact by rw [Rz ht8 ht13 ht24 ht29];rw [h1];rfl|exact h1)).elim
  have hj:=Gb hl hi _ _ h1
  refine W.drawY [0,0,2,6,15,31,63] [2] [.q 2 [] [],.s [33] (some 0) [] [],.s [34] none [0] []] (fun B=>U2 L Hp o om (if B 0=true then j else i) (mvO m)) (fun _=>[.cells 94 [.ptr o 0],.cells 155 [.ptr om 0]]) Ac (by kernel_rfl) rfl rfl (fun B=>by rw [U2_len];exact U2_len.symm) ?_
  apply Y.q
  case h1 =>
   intro B hT hF
   exact Z87
  case hTF=>decide
  refine Y.callUp (r:=A5 s) (o:=o) (x0:=pmO L i) (x:=pmO L j) Tryz.call156 (fun B hB1 hB2 hB=>⟨by simp only [hB];exact Cu ho hne,(Dk hne).symm,rfl,Cj,?_⟩) ?_
  ·simp only [hB]
   exact (ku L i o _ (A6 (Cu ho hne)) hi hll).ok h1
  refine AA5 ?_;refine Z0 ?_
  refine R.storeUpT jS (Dp hm) ?_ ?_
  ·simp [or_imp,forall_and]
  refine Fs ?_;refine AW.upEq (Ue (m:=m) (s:=s)) ?_
  rcases h2:Bq L Hg j with ⟨u,j2⟩|⟨e,a⟩
  rotate_left
  ·exact (Bo hX (by first|exact by rw [Rz ht8 ht13 ht24 ht29];rw [h1];show (Bq L Hg j).bind _=_;rw [h2];rfl|exact h2)).elim
  have hj2:=Eh hl hj.2 _ _ h2
  refine Z2 ?_;refine R.callUp (x:=pmO L j2) Tryz.call123 (Cu ho hne) (by simp) Cj ((ct L Hg j o _ (A6 (Cu ho hne)) hj.2 hll).ok h2) ?_
  rw [Dk hne]
  refine Fs ?_
  rcases h3:G9 L 0 (Da L) (takeS m s) j2 with ⟨m1,j3⟩|⟨e,a⟩
  rotate_left
  ·exact (Bo hX (by first|exact by rw [Rz ht8 ht13 ht24 ht29];rw [h1];show (Bq L Hg j).bind _=_;rw [h2];show (G9 L 0 (Da L) (takeS m s) j2).bind _=_;rw [h3];rfl|exact h3)).elim
  have hj3:=N6 hl (Ii hl hll) (takeS m s) j2 ((hb.mono (by omega:2*i-1≤2*j2-1)).takeS (by omega)) (by omega) hj2.2 _ _ h3
  refine Z2 ?_;refine R.makeFunc ?_
  refine R.callX (up':=U2 L Hp o om j3 (mvO m1)) (own':=[.cells 94 [.ptr o 0],.cells 155 [.ptr om 0]]) Tryz.call159 (((za L (0) (takeS m s) j2 o om 160 [.ptr (oid Hp.length 0) 0,.ptr (oid Hp.length 1) 0] (Da L) (U2 L Hp o om j2 (mvO (takeS m s))++[.cells 94 [.ptr o 0],.cells 155 [.ptr om 0]]) hne (A6 (Cu ho hne)) (A6 (Dp hm)) (by omega) hj2.2 hl hll ((hb.mono (by omega:2*i-1≤2*j2-1)).takeS (by omega)) Tryz.call160 (l4 (z:=pmO L j2) (z':=mvO (takeS m s)) hne (A6 (Cu ho hne)) (A6 (Dp hm)) (l5 rfl) (l5 rfl) (He hol) (He hml) (He hol) (He hml) hl hll) (Ii hl hll)).ok h3).mono (fun r H' e=>⟨e.1,e.2.trans (by first|rw [D5 (by rw [U2_len];exact hol) (by rw [U2_len];exact hml),Hh hne]|rw [D5 hol hml])⟩)) (by first|rfl|rw [U2_len,U2_len]|rw [U2_len]) (fun h=>Gc hne Ei h) ?_
  refine Fs ?_
  rcases h4:E9 L m1 j3 with ⟨m2,k⟩|⟨e,a⟩
  rotate_left
  ·exact (Bo hX (by first|exact by rw [Rz ht8 ht13 ht24 ht29];rw [h1];show (Bq L Hg j).bind _=_;rw [h2];show (G9 L 0 (Da L) (takeS m s) j2).bind _=_;rw [h3];show E9 L m1 j3=_;rw [h4]|exact h4)).elim
  refine Z10 ?_
  refine R.callX (up':=U2 L Hp o om k (mvO m2)) (own':=[.cells 94 [.ptr o 0],.cells 155 [.ptr om 0]]) Tryz.call157 (((vp L m1 j3 o om (U2 L Hp o om j3 (mvO m1)++[.cells 94 [.ptr o 0],.cells 155 [.ptr om 0]]) hne (A6 (Cu ho hne)) (A6 (Dp hm)) hj3.2.1 hl hll hj3.2.2).ok h4).mono (fun r H' e=>⟨e.1,e.2.trans (by first|rw [D5 (by rw [U2_len];exact hol) (by rw [U2_len];exact hml),Hh hne]|rw [D5 hol hml])⟩)) (by first|rfl|rw [U2_len,U2_len]|rw [U2_len]) (fun h=>Gc hne Ei h) ?_
  refine Z67 ?_;exact K.finN .nores (hp:=⟨m2,k,by rw [Rz ht8 ht13 ht24 ht29];rw [h1];show (Bq L Hg j).bind _=_;rw [h2];show (G9 L 0 (Da L) (takeS m s) j2).bind _=_;rw [h3];show E9 L m1 j3=_;rw [h4],rfl,rfl⟩)
 refine Z1 ?_;refine R.fin [2,3,7,45] ?_
 refine W.cond (fun ht45=>?_) (fun ht45=>?_)
 ·rcases h1:G9 L 0 (N4 L) m i with ⟨m1,j⟩|⟨e,a⟩
  rotate_left
  ·exact (Bo hX (by first|exact by rw [S1 ht8 ht13 ht24 ht29 ht45];rw [h1];rfl|exact h1)).elim
  have hj:=N6 hl (Ry hl) m i hb h0 hi _ _ h1
  refine Z2 ?_;refine R.makeFunc ?_
  refine R.callX (up':=U2 L Hp o om j (mvO m1)) (own':=[.cells 94 [.ptr o 0],.cells 155 [.ptr om 0]]) Tryz.call159 (((za L (0) m i o om 161 [.ptr (oid Hp.length 1) 0,.ptr (oid Hp.length 0) 0] (N4 L) (U2 L Hp o om i (mvO m)++[.cells 94 [.ptr o 0],.cells 155 [.ptr om 0]]) hne (A6 (Cu ho hne)) (A6 (Dp hm)) h0 hi hl hll hb Tryz.call161 (l3 (z:=pmO L i) (z':=mvO m) hne (A6 (Cu ho hne)) (A6 (Dp hm)) (l5 rfl) (l5 rfl) (He hol) (He hml) (He hol) (He hml) hl hll) (Ry hl)).ok h1).mono (fun r H' e=>⟨e.1,e.2.trans (by first|rw [D5 (by rw [U2_len];exact hol) (by rw [U2_len];exact hml),Hh hne]|rw [D5 hol hml])⟩)) (by first|rfl|rw [U2_len,U2_len]|rw [U2_len]) (fun h=>Gc hne Ei h) ?_
  refine Fs ?_
  rcases h2:Bq L Hg j with ⟨u,j2⟩|⟨e,a⟩
  rotate_left
  ·exact (Bo hX (by first|exact by rw [S1 ht8 ht13 ht24 ht29 ht45];rw [h1];show (Bq L Hg j).bind _=_;rw [h2];rfl|exact h2)).elim
  have hj2:=Eh hl hj.2.1 _ _ h2
  have hj2e:=Jg h2
  refine Z2 ?_;refine R.callUp (x:=pmO L j2) Tryz.call123 (Cu ho hne) (by simp) Cj ((ct L Hg j o _ (A6 (Cu ho hne)) hj.2.1 hll).ok h2) ?_
  rw [Dk hne]
  refine Fs ?_
  rcases h3:Da L m1 j2 with ⟨m2,j3⟩|⟨e,a⟩
  rotate_left
  ·exact (Bo hX (by first|exact by rw [S1 ht8 ht13 ht24 ht29 ht45];rw [h1];show (Bq L Hg j).bind _=_;rw [h2];show (Da L m1 j2).bind _=_;rw [h3];rfl|exact h3)).elim
  have hj3:=Ii hl hll m1 j2 (hj.2.2.mono (by omega)) (by omega) hj2.2 _ _ h3
  refine Z1 ?_
  refine R.callX (up':=U2 L Hp o om j3 (mvO m2)) (own':=[.cells 94 [.ptr o 0],.cells 155 [.ptr om 0]]) Tryz.call155 (((vo L m1 j2 o om (U2 L Hp o om j2 (mvO m1)++[.cells 94 [.ptr o 0],.cells 155 [.ptr om 0]]) hne (A6 (Cu ho hne)) (A6 (Dp hm)) hj2.2 hl hll (hj.2.2.mono (by omega))).ok h3).mono (fun r H' e=>⟨e.1,e.2.trans (by first|rw [D5 (by rw [U2_len];exact hol) (by rw [U2_len];exact hml),Hh hne]|rw [D5 hol hml])⟩)) (by first|rfl|rw [U2_len,U2_len]|rw [U2_len]) (fun h=>Gc hne Ei h) ?_
  refine Fs ?_
  rcases h4:E9 L m2 j3 with ⟨m3,k⟩|⟨e,a⟩
  rotate_left
  ·exact (Bo hX (by first|exact by rw [S1 ht8 ht13 ht24 ht29 ht45];rw [h1];show (Bq L Hg j).bind _=_;rw [h2];show (Da L m1 j2).bind _=_;rw [h3];show E9 L m2 j3=_;rw [h4]|exact h4)).elim
  refine Z10 ?_
  refine R.callX (up':=U2 L Hp o om k (mvO m3)) (own':=[.cells 94 [.ptr o 0],.cells 155 [.ptr om 0]]) Tryz.call157 (((vp L m2 j3 o om (U2 L Hp o om j3 (mvO m2)++[.cells 94 [.ptr o 0],.cells 155 [.ptr om 0]]) hne (A6 (Cu ho hne)) (A6 (Dp hm)) hj3.2.1 hl hll hj3.2.2).ok h4).mono (fun r H' e=>⟨e.1,e.2.trans (by first|rw [D5 (by rw [U2_len];exact hol) (by rw [U2_len];exact hml),Hh hne]|rw [D5 hol hml])⟩)) (by first|rfl|rw [U2_len,U2_len]|rw [U2_len]) (fun h=>Gc hne Ei h) ?_
  refine Z67 ?_;exact K.finN .nores (hp:=⟨m3,k,by rw [S1 ht8 ht13 ht24 ht29 ht45];rw [h1];show (Bq L Hg j).bind _=_;rw [h2];show (Da L m1 j2).bind _=_;rw [h3];show E9 L m2 j3=_;rw [h4],rfl,rfl⟩)
 refine Z1 ?_;refine R.fin [2,3,58] ?_
 refine W.cond (fun ht58=>?_) (fun ht58=>?_)
 ·rcases h1:Da L m i with ⟨m1,j⟩|⟨e,a⟩
  rotate_left
  ·exact (Bo hX (by first|exact by rw [cv ht8 ht13 ht24 ht29 ht45 ht58];rw [h1];rfl|exact h1)).elim
  have hj:=Ii hl hll m i hb h0 hi _ _ h1
  refine Z1 ?_
  refine R.callX (up':=U2 L Hp o om j (mvO m1)) (own':=[.cells 94 [.ptr o 0],.cells 155 [.ptr om 0]]) Tryz.call155 (((vo L m i o om (U2 L Hp o om i (mvO m)++[.cells 94 [.ptr o 0],.cells 155 [.ptr om 0]]) hne (A6 (Cu ho hne)) (A6 (Dp hm)) hi hl hll hb).ok h1).mono (fun r H' e=>⟨e.1,e.2.trans (by first|rw [D5 (by rw [U2_len];exact hol) (by rw [U2_len];exact hml),Hh hne]|rw [D5 hol hml])⟩)) (by first|rfl|rw [U2_len,U2_len]|rw [U2_len]) (fun h=>Gc hne Ei h) ?_
  refine Fs ?_;refine W.drawY [0,0,2,6,14,30,62,126,254,511,1023,2047] [] [.q 8 [] [],.s [71] none [] []] (fun _=>U2 L Hp o om j (mvO m1)) (fun _=>[.cells 94 [.ptr o 0],.cells 155 [.ptr om 0]]) Ac (by kernel_rfl) rfl rfl (fun B=>rfl) ?_
  apply Y.q
  case h1 =>
   intro B hT hF
   refine Nh ?_
   refine D.go (h:=Q.loadUp (Dp hm)) (hr:=?_)
   refine D.go (h:=Q.indexAddr (0) (An (m1.give.getD 0 ⟨[],0⟩)) (fun _=>qx h1)) (hr:=?_)
   exact Z87
  case hTF=>decide
  refine Y.buildSlice jU Tryz.sizeOf9 Tryz.zeroValue9 ?_;refine Y.tail (tn:=[]) (U:=U2 L Hp o om j (mvO m1)) ?_;refine Z0 ?_
  refine R.storeUpT jS (Dp hm) ?_ ?_
  ·simp [or_imp,forall_and]
  refine Fs ?_;refine AW.upEq (l6 (m:=m1) (c:=m1.give.getD 0 ⟨[],0⟩)) ?_
  rcases h2:E9 L (takeS m1 (m1.give.getD 0 ⟨[],0⟩).name) j with ⟨m2,k⟩|⟨e,a⟩
  rotate_left
  ·exact (Bo hX (by first|exact by rw [cv ht8 ht13 ht24 ht29 ht45 ht58];rw [h1];show E9 L (takeS m1 (m1.give.getD 0 ⟨[],0⟩).name) j=_;rw [h2]|exact h2)).elim
  refine Z10 ?_
  refine R.callX (up':=U2 L Hp o om k (mvO m2)) (own':=[.cells 94 [.ptr o 0],.cells 155 [.ptr om 0]]) Tryz.call157 (((vp L (takeS m1 (m1.give.getD 0 ⟨[],0⟩).name) j o om (U2 L Hp o om j (mvO (takeS m1 (m1.give.getD 0 ⟨[],0⟩).name))++[.cells 94 [.ptr o 0],.cells 155 [.ptr om 0]]) hne (A6 (Cu ho hne)) (A6 (Dp hm)) hj.2.1 hl hll (hj.2.2.takeS (by omega))).ok h2).mono (fun r H' e=>⟨e.1,e.2.trans (by first|rw [D5 (by rw [U2_len];exact hol) (by rw [U2_len];exact hml),Hh hne]|rw [D5 hol hml])⟩)) (by first|rfl|rw [U2_len,U2_len]|rw [U2_len]) (fun h=>Gc hne Ei h) ?_
  refine Z67 ?_;exact K.finN .nores (hp:=⟨m2,k,by rw [cv ht8 ht13 ht24 ht29 ht45 ht58];rw [h1];show E9 L (takeS m1 (m1.give.getD 0 ⟨[],0⟩).name) j=_;rw [h2],rfl,rfl⟩)
 refine i8 ?_;exact K.finN .nores (hp:=⟨m,i,zb ht8 ht13 ht24 ht29 ht45 ht58,rfl,rfl⟩)

def ACi:Str:=[32,97,100,100,32,100,114,111,112,32,114,101,110,97,109,101,32,115,112,108,105,116,32,109,101,114,103,101,32,114,101,116,121,112,101]
theorem l7:K5 ACi [32]=migWords:=by kernel_rfl
theorem AEp (k:Int) (Hp:List AObj):AFun Tryz.prog 154 [A2 k] Hp (A5 (Co k)):=by
 refine ACall.body [.tmp 2] [0] Tryz.func154 Tryz.ntmps154 (fun d=>?_)
 refine Wm ?_;refine V0 ?_;refine R.fin [0,8] ?_
 refine W.cond (fun ht8=>?_) (fun ht8=>?_)
 ·have hm:Co k=[]:=if_pos ht8
  exact mm
 have hm:Co k=migWords.getD k.toNat []:=if_neg (by rw [ht8];simp)
 refine Zn ?_;refine R.call Tryz.call100 (xl ACi [32] (by decide) (by decide) _) ?_
 rw [l7]
 refine R.go ?_
 have hk:1≤k∧k≤6:=by simp at ht8;omega
 have hget:(migWords.map A5)[k.toNat]? = some (A5 (migWords.getD k.toNat [])):=by
  have hlt:k.toNat<migWords.length:=by show k.toNat<7;omega
  rw [List.getElem?_map,List.getElem?_eq_getElem hlt,List.getD_eq_getElem?_getD,List.getElem?_eq_getElem hlt]
  rfl
 refine R.go (h:=Q.indexAddr (k.toNat) (A5 (migWords.getD k.toNat [])) (fun _=>hget)) (hr:=?_)
 exact AAg

theorem l8 {s:Str} {x:Nat} (h:∀j:Nat,j<x→(Co ((j:Int)+1)==s)=false) (hx:x<6) (he:(Co ((x:Int)+1)==s)=true):F9 s=(x:Int)+1:=by
 have a:∀j:Nat,j<x→∀k:Int,k=(j:Int)+1→(Co k==s)=false:=fun j hj k e=>by rw [e];exact h j hj
 have b:∀k:Int,k=(x:Int)+1→(Co k==s)=true:=fun k e=>by rw [e];exact he
 have h6:x=0∨x=1∨x=2∨x=3∨x=4∨x=5:=by omega
 unfold F9
 rcases h6 with rfl|rfl|rfl|rfl|rfl|rfl
 ·rw [if_pos (b 1 rfl)];rfl
 ·rw [if_neg (by rw [a 0 (by omega) 1 rfl];simp),if_pos (b 2 rfl)];rfl
 ·rw [if_neg (by rw [a 0 (by omega) 1 rfl];simp),if_neg (by rw [a 1 (by omega) 2 rfl];simp),if_pos (b 3 rfl)];rfl
 ·rw [if_neg (by rw [a 0 (by omega) 1 rfl];simp),if_neg (by rw [a 1 (by omega) 2 rfl];simp),if_neg (by rw [a 2 (by omega) 3 rfl];simp),if_pos (b 4 rfl)];rfl
 ·rw [if_neg (by rw [a 0 (by omega) 1 rfl];simp),if_neg (by rw [a 1 (by omega) 2 rfl];simp),if_neg (by rw [a 2 (by omega) 3 rfl];simp),if_neg (by rw [a 3 (by omega) 4 rfl];simp),if_pos (b 5 rfl)];rfl
 rw [if_neg (by rw [a 0 (by omega) 1 rfl];simp),if_neg (by rw [a 1 (by omega) 2 rfl];simp),if_neg (by rw [a 2 (by omega) 3 rfl];simp),if_neg (by rw [a 3 (by omega) 4 rfl];simp),if_neg (by rw [a 4 (by omega) 5 rfl];simp),if_pos (b 6 rfl)];rfl
theorem Ys {s:Str} {x:Nat} (h:∀j:Nat,j<x→(Co ((j:Int)+1)==s)=false) (he:(Co ((x:Int)+1)==s)=false):∀j:Nat,j<x+1→(Co ((j:Int)+1)==s)=false:=fun j hj=>by
 rcases Nat.lt_or_ge j x with h1|h1
 ·exact h j h1
 rw [show j=x by omega];exact he
theorem l9 {s:Str} {x:Nat} (h:∀j:Nat,j<x→(Co ((j:Int)+1)==s)=false) (hx:6≤x):F9 s=0:=by
 have a:∀j:Nat,j<6→∀k:Int,k=(j:Int)+1→(Co k==s)=false:=fun j hj k e=>by rw [e];exact h j (by omega)
 unfold F9
 rw [if_neg (by rw [a 0 (by omega) 1 rfl];simp),if_neg (by rw [a 1 (by omega) 2 rfl];simp),if_neg (by rw [a 2 (by omega) 3 rfl];simp),if_neg (by rw [a 3 (by omega) 4 rfl];simp),if_neg (by rw [a 4 (by omega) 5 rfl];simp),if_neg (by rw [a 5 (by omega) 6 rfl];simp)]
theorem AEq (s:Str) (Hp:List AObj):AFun Tryz.prog 121 [A5 s] Hp (A2 (F9 s)):=by
 refine ACall.body [.tmp 2] [0] Tryz.func121 Tryz.ntmps121 (fun d=>?_)
 refine Zr ?_;refine Ib ?_
 refine AW.loopC (α:=Nat) (fun x=>⟨13,A3 0 (A5 s) (A3 3 (A2 ((x:Nat)+1)) (fun _=>.any)),Hp,[],[],none⟩) (fun x=>∀j:Nat,j<x→(Co ((j:Int)+1)==s)=false) (fun x=>6-x) (0) (fun j h=>by omega) (StLe.refl _) rfl (fun x hx=>?_)
 refine Z8 ?_;refine R.fin [0,3,5] ?_
 refine W.cond (fun ht5=>?_) (fun ht5=>?_)
 ·have hx6:x<6:=by simp at ht5;omega
  refine Z38 ?_;refine Z2 ?_;refine R.call Tryz.call154 (AEp _ _) ?_;refine Z0 ?_;refine R.fin [0,3,11] ?_
  refine W.cond (fun ht11=>?_) (fun ht11=>?_)
  ·refine Wn ?_;refine Z33 ?_;exact K.fin (V.one V.tmp) ⟨by rw [l8 hx hx6 ht11],rfl⟩
  refine Zk ?_
  refine K.lpN (x+1) (Ys hx ht11) (by omega) (StCut.of_eq rfl)
 have hx6:6≤x:=by simp at ht5;omega
 refine Wl ?_;exact K.fin (V.one V.tmp) ⟨by rw [l9 hx hx6],rfl⟩

theorem zc {L:List Tok} {Hp own:List AObj} {o i n:Nat} {x:AObj} (h1:o<Hp.length):U2 L (Hp++own) o (oid Hp.length n) i x=Hp.set o (pmO L i)++own.set n x:=by
 unfold U2 oid
 rw [List.set_append_left _ _ h1,List.set_append,if_neg (by simp),List.length_set,Nat.add_sub_cancel_left]
theorem r6 {L:List Tok} {Hp:List AObj} {o i j n:Nat} (h:∀z∈Hp.set o (pmO L i),ObjLow n z):∀z∈Hp.set o (pmO L j),ObjLow n z:=by
 intro z hz
 rw [show Hp.set o (pmO L j)=(Hp.set o (pmO L i)).set o (pmO L j) by rw [List.set_set]] at hz
 rcases List.mem_or_eq_of_mem_set hz with hz|rfl
 ·exact h z hz
 exact Cj
theorem c90 (L:List Tok) (i o:Nat) (Hp:List AObj) (ho:Hp[o]? = some (pmO L i)) (hi:i<L.length) (hl:TokEnd L) (hll:L.length≤500000):CP 90 [.ptr o 0] Hp (Kj L i) (fun m j r H'=>r=Dq m∧H'=Hp.set o (pmO L j)) (W1 L o Hp):=by
 refine ⟨fun hX=>?_⟩
 have hol:=(List.getElem?_eq_some_iff.1 ho).1
 have hne:oid Hp.length 2≠o:=by unfold oid;omega
 refine ACall.body [.cell 2 64] [0] Tryz.func90 Tryz.ntmps90 (fun d=>?_)
 refine Z64 ?_;refine x9 ?_;refine Wi ?_;refine Z1 ?_;refine R.call Tryz.call121 (AEq (A9 L i).text _) ?_;refine R.build (places:=#[(0,1),(1,1),(2,1),(3,1),(4,1)]) jU (fun w=>by simp) jZ ?_;refine Z17 ?_;refine R.fin [0,2,3,4] ?_;refine Z66 ?_;refine R.nilCell 2 1 1 ?_;refine R.nilCell 2 2 2 ?_;refine R.nilCell 2 3 6 ?_;refine R.nilCell 2 4 6 ?_;refine Z0 ?_;refine Z30 ?_;refine Z70 ?_;refine R.fin [0,2,4,18] ?_
 refine W.cond (fun ht18=>?_) (fun ht18=>?_)
 ·have e:Kj L i=.bad 8 (A9 L i).at_:=if_pos ht18
  exact n8
 have e0:Kj L i=(Ga L (⟨F9 (A9 L i).text,[],[],[],[]⟩:Mov) (i+1)).bind fun m j=>(Bq L [59] j).bind fun _ j=>.ok m j:=if_neg (by rw [ht18];simp)
 have hi1:i+1<L.length:=hl.step hi (by simp only [Bool.or_eq_false_iff,bne_eq_false_iff_eq] at ht18;rw [ht18.1];decide)
 refine Z85 ?_
 refine R.go (h:=Q.loadUp ho) (hr:=?_)
 refine Z22 ?_
 refine R.storeUp jS ho ?_ ?_
 ·simp
 refine R.fin [0,2,4] ?_
 rcases hR:Ga L (⟨F9 (A9 L i).text,[],[],[],[]⟩:Mov) (i+1) with ⟨m1,k⟩|⟨e,a⟩
 rotate_left
 ·exact (Bo hX (by first|exact by rw [e0];rw [hR];rfl|exact hR)).elim
 have hk:=fl hl hll (⟨F9 (A9 L i).text,[],[],[],[]⟩:Mov) (i+1) ⟨Nat.zero_le _,Nat.zero_le _,Nat.zero_le _,Nat.zero_le _⟩ (by omega) hi1 _ _ hR
 refine Z2 ?_
 refine R.callX (up':=Hp.set o (pmO L k)) (own':=[.cells 64 [A2 0,.nil,.nil,.nil,.nil],.cells 125 [.v (.int .i64 (A9 L i).kind),.v (sv (A9 L i).text),.v (.int .i64 ((A9 L i).at_:Int))],mvO m1]) Tryz.call122 (((AEo L (⟨F9 (A9 L i).text,[],[],[],[]⟩:Mov) (i+1) o (oid Hp.length 2) (Hp.set o (pmO L (i+1))++[.cells 64 [A2 0,.nil,.nil,.nil,.nil],.cells 125 [.v (.int .i64 (A9 L i).kind),.v (sv (A9 L i).text),.v (.int .i64 ((A9 L i).at_:Int))],mvO (⟨F9 (A9 L i).text,[],[],[],[]⟩:Mov)]) hne (by rw [List.getElem?_append_left (by simpa using hol)];exact getset ho) (by unfold oid;rw [List.getElem?_append_right (by simp)];simp) hi1 hl hll ⟨Nat.zero_le _,Nat.zero_le _,Nat.zero_le _,Nat.zero_le _⟩ (by omega)).ok hR).mono (fun r H' e=>⟨e.1,e.2.trans (by rw [show oid Hp.length 2=oid (Hp.set o (pmO L (i+1))).length 2 by simp];rw [zc (by simpa using hol),List.set_set];rfl)⟩)) (by simp) (fun h=>by simpa using r6 h) ?_
 refine R.fin [0,2,4] ?_
 rcases hW:Bq L [59] k with ⟨u,j2⟩|⟨e,a⟩
 rotate_left
 ·exact (Bo hX (by first|exact by rw [e0];rw [hR];show (Bq L [59] k).bind _=_;rw [hW];rfl|exact hW)).elim
 refine Z2 ?_;refine R.callUp (x:=pmO L j2) Tryz.call123 (getset ho) (by simp) Cj ((ct L [59] k o _ (A6 (getset ho)) hk.2.1 hll).ok hW) ?_
 rw [List.set_set]
 refine R.fin [2,4] ?_;refine Z2 ?_;refine Z13 ?_;exact K.fin (V.one (V.cellN jA jS)) (hp:=⟨m1,j2,by rw [e0];rw [hR];show (Bq L [59] k).bind _=_;rw [hW];rfl,rfl,rfl⟩) (hlow:=Y1)

/-- What mig.parser.moves comes to: the moves, or none and the fault. -/
def Mc (L:List Tok):List Mov×Int×Int:=match Hd L with
 | .ok l _=>(l,0,0)
 | .bad e a=>([],e,a)
abbrev Vt (L:List Tok):AV:=.tup [Ca (Mc L).1,.agg [A2 (Mc L).2.1,A2 (Mc L).2.2]]
theorem vq {fc:Func} {r0 crest:Code} (hf:Tryz.prog.funcs[87]? = some fc) (hb:fc.body=some (.seq r0 crest)) (d a b:Nat) (H:List AObj):AW Tryz.prog (d+1) crest ⟨8,A3 2 (.v .nilIface) (A3 3 (.v .nilIface) (Go.SX.argsF [.ptr a 0,.ptr b 0])),H,[],[],none⟩ (fun e s2=>(e=.normal∨e=.ret)∧s2.defs=[]∧s2.up=H):=by
 have e:=Tryz.func87.symm.trans hf
 injection e with e
 subst e
 injection hb with hb
 injection hb with h1 h2
 subst h2
 refine AW.keep [0,1,2] (by simp only [go_sem,↓reduceIte,Nat.reduceEqDiff,Nat.reduceAdd]<;>rfl) ?_
 refine Z2 ?_;refine R.neqNil0 jU ?_;refine R.fin [0,1,2,5] ?_
 refine W.cond (fun ht5=>?_) (fun ht5=>?_)
 ·cases ht5
 refine AW.skip ?_;exact ⟨.inl rfl,rfl,rfl⟩

/-- Where the loop of moves stands. -/
structure MovAt (L:List Tok) (x:List Mov×Nat):Prop where
 lt:x.2<L.length
 le:x.1.length≤8
 at_:Hd L=Jf L (9-x.1.length) x.1 x.2
theorem vr {L:List Tok} (hl:TokEnd L) (hll:L.length≤500000) {i:Nat} (hi:i<L.length) {m:Mov} {j:Nat} (h:Kj L i=.ok m j):i<j∧j<L.length:=by
 unfold Kj at h
 split at h
 ·cases h
 rename_i h0
 have hi1:i+1<L.length:=hl.step hi (by
  simp only [Bool.or_eq_true,not_or,Bool.not_eq_true,bne_eq_false_iff_eq] at h0
  rw [h0.1];decide)
 obtain ⟨m1,k,h1,h2⟩:=PR.bind_ok h
 obtain ⟨u,j2,h3,h4⟩:=PR.bind_ok h2
 injection h4 with h5 h6
 subst h6
 obtain ⟨a1,a2,_⟩:=fl hl hll _ (i+1) ⟨Nat.zero_le _,Nat.zero_le _,Nat.zero_le _,Nat.zero_le _⟩ (by omega) hi1 _ _ h1
 obtain ⟨b1,b2⟩:=Eh hl a2 _ _ h3
 exact ⟨by omega,b2⟩
theorem Kk {L:List Tok} {l:List Mov} {i:Nat} (hl:l.length≤8):Jf L (9-l.length) l i=if (A9 L i).kind != 0 then (if (l.length:Int)==8 then Uc L i 3 else (Kj L i).bind fun m j=>Jf L (8-l.length) (l++[m]) j) else .ok l i:=by
 rw [show 9-l.length=(8-l.length)+1 by omega,Jf]
theorem MovAt.out {L:List Tok} {x:List Mov×Nat} (h:MovAt L x) (hk:((A9 L x.2).kind != 0)=false):Hd L=.ok x.1 x.2:=by
 rw [h.at_,Kk h.le,if_neg (by rw [hk];simp)]
theorem MovAt.long {L:List Tok} {x:List Mov×Nat} (h:MovAt L x) (hk:((A9 L x.2).kind != 0)=true) (h8:((x.1.length:Int)==8)=true):Hd L=.bad 3 (A9 L x.2).at_:=by
 rw [h.at_,Kk h.le,if_pos hk,if_pos h8];rfl
theorem MovAt.step {L:List Tok} {x:List Mov×Nat} (h:MovAt L x) (hk:((A9 L x.2).kind != 0)=true) (h8:((x.1.length:Int)==8)=false):Hd L=(Kj L x.2).bind fun m j=>Jf L (8-x.1.length) (x.1++[m]) j:=by
 rw [h.at_,Kk h.le,if_pos hk,if_neg (by rw [h8];simp)]
theorem MovAt.bad {L:List Tok} {x:List Mov×Nat} (h:MovAt L x) (hk:((A9 L x.2).kind != 0)=true) (h8:((x.1.length:Int)==8)=false) {e a:Int} (hM:Kj L x.2=.bad e a):Hd L=.bad e a:=by
 rw [h.step hk h8,hM];rfl
theorem MovAt.on {L:List Tok} (hl:TokEnd L) (hll:L.length≤500000) {x:List Mov×Nat} (h:MovAt L x) (hk:((A9 L x.2).kind != 0)=true) (h8:((x.1.length:Int)==8)=false) {m:Mov} {j:Nat} (hM:Kj L x.2=.ok m j):MovAt L (x.1++[m],j)∧x.2<j:=by
 obtain ⟨a1,a2⟩:=vr hl hll h.lt hM
 have h1:x.1.length≤7:=by
  have:=h.le
  simp only [beq_eq_false_iff_ne,ne_eq] at h8
  omega
 refine ⟨⟨a2,by show (x.1++[m]).length≤8;simp;omega,?_⟩,a1⟩
 rw [h.step hk h8,hM]
 show Jf L (8-x.1.length) (x.1++[m]) j=Jf L (9-(x.1++[m]).length) (x.1++[m]) j
 rw [show 9-(x.1++[m]).length=8-x.1.length by rw [List.length_append,List.length_singleton];omega]
theorem la {L:List Tok} {l:List Mov} {i:Nat} (h:Hd L=.ok l i):Vt L=.tup [Ca l,.agg [A2 0,A2 0]]:=by unfold Vt Mc;rw [h]
theorem vt {fn fc:Func} {x0 r1 y r0 crest:Code} (hf:Tryz.prog.funcs[62]? = some fn) (hb:fn.body=some (.seq x0 (.seq r1 y))) (hf2:Tryz.prog.funcs[87]? = some fc) (hb2:fc.body=some (.seq r0 crest)) (L:List Tok) (o:Nat) (Hp:List AObj) (ho:Hp[o]? = some (pmO L 0)) (hl:TokEnd L) (hll:L.length≤500000) (hX:∃l i,Hd L=.ok l i) (d:Nat):
  AW Tryz.prog (d+1) y ⟨21,A3 0 (.ptr o 0) (A3 2 (.ptr (oid Hp.length 0) 0) (A3 3 (.ptr (oid Hp.length 1) 0) (A3 4 (.fn (.func 87) [] [.ptr (oid Hp.length 0) 0,.ptr (oid Hp.length 1) 0]) fun _=>.any))),Hp,[.cells 23 [.nil],.cells 60 [A2 0,A2 0]],[],none⟩ (KG Tryz.prog crest 8 3 2 [.ptr (oid Hp.length 0) 0,.ptr (oid Hp.length 1) 0] [.cell 2 23,.cell 3 60] Hp.length (fun r H'=>r=Vt L∧∃i,H'=Hp.set o (pmO L i))):=by
 have e:=Tryz.func62.symm.trans hf
 injection e with e
 subst e
 injection hb with hb
 injection hb with h1 h2
 injection h2 with h2 h3
 subst h3
 refine AW.keep [0,2,3] (by simp only [go_sem,↓reduceIte,Nat.reduceEqDiff,Nat.reduceAdd]<;>rfl) ?_
 refine AW.upEq (F3 ho).symm ?_;refine W.seq ?_
 refine AW.loopC (α:=List Mov×Nat) (fun x=>⟨21,A3 0 (.ptr o 0) (A3 2 (.ptr (oid Hp.length 0) 0) (A3 3 (.ptr (oid Hp.length 1) 0) (fun _=>.any))),Hp.set o (pmO L x.2),[.cells 23 [.slice true 5 (x.1.map Dq)],.cells 60 [A2 0,A2 0]],[],none⟩) (fun x=>MovAt L x) (fun x=>L.length-x.2) (([],0)) ⟨hl.pos,by decide,rfl⟩ (StLe.nilCell (own:=[.cells 23 [.nil],.cells 60 [A2 0,A2 0]]) (n:=0) (j0:=0) (k:=5) (t:=23) (cs:=[.nil]) rfl rfl) rfl (fun x hx=>?_)
 refine Z31 ?_;refine R.call Tryz.call88 (c88 L x.2 o _ (A6 (getset ho)) hx.lt) ?_;refine Z0 ?_;refine R.fin [0,2,3,8] ?_
 refine W.cond (fun ht8=>?_) (fun ht8=>?_)
 ·have hk:((A9 L x.2).kind != 0)=true:=ht8
  refine mw ?_;refine Z34 ?_;refine R.fin [0,2,3,11] ?_
  refine W.cond (fun ht11=>?_) (fun ht11=>?_)
  ·have h8:((x.1.length:Int)==8)=true:=by rw [List.length_map] at ht11;exact ht11
   exact (Bo hX (hx.long hk h8)).elim
  have h8:((x.1.length:Int)==8)=false:=by rw [List.length_map] at ht11;exact ht11
  refine Z5 ?_
  rcases hM:Kj L x.2 with ⟨m,j⟩|⟨e,a⟩
  rotate_left
  ·exact (Bo hX (by first|exact hx.bad hk h8 hM|exact hM)).elim
  have hon:=hx.on hl hll hk h8 hM
  refine W.drawY0 [0,0,2,6,15,31] [0,2] [.s [14] (some 0) [] [],.q 1 [] [1],.s [16] (some 1) [] [],.q 1 [1] []] (fun B=>Hp.set o (pmO L (if B 1=true then j else x.2))) (fun B=>if B 0=true then [.cells 23 [.slice false 5 (x.1.map Dq)],.cells 60 [A2 0,A2 0]] else [.cells 23 [.slice true 5 (x.1.map Dq)],.cells 60 [A2 0,A2 0]]) Ac (by kernel_rfl) rfl rfl (fun B=>by simp) ?_
  refine Y.loadOwnT (u:=Hp.length) (n:=0) (t':=23) (cs:=[.slice true 5 (x.1.map Dq)]) (cs':=[.slice false 5 (x.1.map Dq)]) Tryz.isAgg23 (fun B hB=>⟨by simp,by simp only [hB];rfl,by simp only [hB];rfl,rfl⟩) ?_
  apply Y.q
  case h1 =>
   intro B hT hF
   exact Z90
  case hTF=>decide
  refine Y.callUp (r:=Dq m) (o:=o) (x0:=pmO L x.2) (x:=pmO L j) Tryz.call90 (fun B hB1 hB2 hB=>⟨by simp only [hB];exact getset ho,by simp only [hB];exact (List.set_set ..).symm,rfl,Cj,?_⟩) ?_
  ·simp only [hB]
   exact ((c90 L x.2 o _ (A6 (getset ho)) hx.lt hl hll).ok hM)
  apply Y.q
  case h1 =>
   intro B hT hF
   exact Z47
  case hTF=>decide
  refine Y.tail (tn:=[0,2]) (U:=Hp.set o (pmO L j)) (O:=[.cells 23 [.slice false 5 (x.1.map Dq)],.cells 60 [A2 0,A2 0]]) ?_
  refine R.append jU Tryz.type64 ?_ ?_ ?_
  ·simp [Tryz.t64];have:=hx.le;omega
  ·simp [Tryz.t64];have:=hx.le;omega
  refine R.storeOwnT jS ?_;refine R.fin [0,2,3] ?_;refine K.blN ?_
  refine K.lpN (x.1++[m],j) hon.1 (by have:=hx.lt;have:=hon.2;show L.length-j<L.length-x.2;omega) (StCut.of_eq (by simp [List.map_append,show Tryz.t64.size=5 from rfl]))
 have hk:((A9 L x.2).kind != 0)=false:=ht8
 have e:=hx.out hk
 refine Z40 ?_;refine Z2 ?_;refine AAs ?_;refine md ?_;refine AW.ret ?_;exact KG.fin .ret (V.two (V.cell Tryz.isAgg23) (V.cellN Tryz.isAgg60 Tryz.sizeOf60)) (fun d=>vq hf2 hb2 d _ _ _) ⟨(la e).symm,x.2,rfl⟩ (hlow:=by simpa using (H4 (n:=Hp.length) (k:=5) (o:=false) (l:=x.1)))

theorem c62 (L:List Tok) (o:Nat) (Hp:List AObj) (ho:Hp[o]? = some (pmO L 0)) (hl:TokEnd L) (hll:L.length≤500000) (hX:∃l i,Hd L=.ok l i):ACall Tryz.prog 62 [.ptr o 0] Hp (fun r H'=>r=Vt L∧∃i,H'=Hp.set o (pmO L i)):=by
 refine ACall.guarded (n:=21) (nc:=8) (a:=3) (b:=2) (os:=[oid Hp.length 0,oid Hp.length 1]) (own0:=[.cells 23 [.nil],.cells 60 [A2 0,A2 0]]) (rs:=[.cell 2 23,.cell 3 60])
  (fr0:=A3 0 (.ptr o 0) (A3 2 (.ptr (oid Hp.length 0) 0) (A3 3 (.ptr (oid Hp.length 1) 0) fun _=>.any))) (fr1:=A3 0 (.ptr o 0) (A3 2 (.ptr (oid Hp.length 0) 0) (A3 3 (.ptr (oid Hp.length 1) 0) (A3 4 (.fn (.func 87) [] [.ptr (oid Hp.length 0) 0,.ptr (oid Hp.length 1) 0]) fun _=>.any))))
  Tryz.func62 rfl rfl Tryz.ntmps62 (by simp) Tryz.func87 rfl Tryz.ntmps87 rfl (by simp) (by decide) (by decide) Tryz.call87 (fun d=>?_) (fun d=>?_) rfl (fun d l=>?_)
 ·refine AW.keep [0] (by simp only [go_sem,↓reduceIte,Nat.reduceEqDiff,Nat.reduceAdd]<;>rfl) ?_
  refine AW.region ?_;refine Lp ?_;refine Lp ?_;refine R.fin [0,2,3] ?_;exact ⟨rfl,rfl⟩
 ·refine R.makeFunc ?_;refine R.fin [0,2,3,4] ?_
  rfl
 exact @vt { b:=ErrAt.b,bd:=d+1,bl:=l } _ _ _ _ _ _ _ Tryz.func62 rfl Tryz.func87 rfl L o Hp ho hl hll hX d
theorem zd {s:Str} (h:((Et s).2.1 != 0)=false):cr s=Mc (Et s).1:=by
 unfold cr Mc
 rw [if_neg (by rw [h];simp)]
 cases Hd (Et s).1<;>rfl
theorem c33 (s:Str) (hs:s.length≤1048576) (hz0:(Et s).2.1=0) (hX:∃l i,Hd (Et s).1=.ok l i) (Hp:List AObj):AFun Tryz.prog 33 [A5 s] Hp (.tup [Ca (cr s).1,.agg [A2 (cr s).2.1,A2 (cr s).2.2]]):=by
 refine ACall.body [.tmp 2,.cell 3 60] [0] Tryz.func33 Tryz.ntmps33 (fun d=>?_)
 refine mv ?_;refine Ib ?_;refine Z2 ?_;refine R.call Tryz.call61 (c61 s hs _) ?_;refine Z22 ?_;refine wz ?_;refine R.fin [3,4,5] ?_;refine Z34 ?_;refine R.fin [3,4,5,13] ?_
 refine W.cond (fun ht13=>?_) (fun ht13=>?_)
 ·rw [hz0] at ht13;cases ht13
 have hz:(Et s).2.1=0:=by simpa using ht13
 have hle:=tx hz
 have hlen:=uj hz
 have e:=zd ht13
 refine L1 ?_;refine Wo ?_;refine R.box ?_
 refine R.callEx (fun _=>Hp) (fun i=>[.cells 60 [A2 0,A2 0],.cells 60 [A2 (Et s).2.1,A2 ((Et s).2.2:Nat)],pmO (Et s).1 i]) Tryz.call62 ((c62 (Et s).1 (oid Hp.length 2) _ (by rw [Aw];rfl) hle (by omega) hX).mono (fun r H' ⟨e,i,h⟩=>⟨e,i,h.trans (by rw [Dx];rfl)⟩)) (fun _=>rfl) (fun _ h=>h) (fun i=>?_)
 refine Z22 ?_;refine md ?_;refine AW.ret ?_;exact K.fin (V.two V.tmp (V.cellN jA jS)) ⟨by rw [e],rfl⟩ (hlow:=by simpa using (H4 (n:=Hp.length) (k:=5) (o:=false) (l:=(Mc (Et s).1).1)))

/-! SoundJoins: one behind the other, in one. -/
theorem r7 {c:List Col} (h:Fh c=false):c.length≤1000000:=by
 unfold Fh at h
 simp only [Bool.or_eq_false_iff,decide_eq_false_iff_not] at h
 omega
/-! fuse: the chapter's example, and the weight of trees. -/
def fzS:Str:=[114,101,110,97,109,101,32,97,32,116,111,32,98,59,32,97,100,100,32,99,32,105,110,116,32,61,32,98,32,42,32,50,59]
def fzL:List Mov:=(cr fzS).1
theorem r8:cr fzS=(fzL,0,0):=by kernel_rfl
def fzC:List Col:=[⟨[97],1⟩]
theorem vu:OkCols fzC:=⟨by decide,fun y hy=>by rw [List.mem_singleton.1 hy];decide⟩
theorem ze {l:List Mov} (h:(l.all fun m=>m.ahead.all (fun e=>Ct Hb e)&&m.back.all (fun e=>Ct Hb e))=true):∀m∈l,RngMv m:=fun m hm=>by
 have:=List.all_eq_true.1 h m hm
 rw [Bool.and_eq_true] at this
 exact ⟨fun e he=>List.all_eq_true.1 this.1 e he,fun e he=>List.all_eq_true.1 this.2 e he⟩
theorem ACj:OkMovs fzL:=U4 (by kernel_rfl) (ze (by kernel_rfl))
def fzT:List Expr:=(Hc fzC fzL).1
theorem r9:Hc fzC fzL=(fzT,0):=by kernel_rfl
def fzE:Expr:=fzT.getD 1 Aa
theorem zf:(fzT.map A4)[1]? = some (A4 fzE):=by kernel_rfl
theorem zg:fzT.length=2:=by kernel_rfl
theorem zh:Ct Hb fzE=true:=by kernel_rfl
theorem vw:Oo fzE=false:=by kernel_rfl
theorem vz:Oz fzE=([97,32,42,32,50],0):=by kernel_rfl
theorem c20 (Hp:List AObj):AFun Tryz.prog 20 [] Hp (Ao true):=by
 refine ACall.body [.tmp 0] [] Tryz.func20 Tryz.ntmps20 (fun d=>?_)
 refine Z2 ?_;refine R.fin [] ?_;refine Cx ?_;refine R.call Tryz.call33 (c33 fzS (by decide) (by kernel_rfl) (ACf (by kernel_rfl)) _) ?_
 rw [r8]
 refine Z22 ?_;refine wz ?_;refine R.fin [1,2] ?_;refine Cx ?_;refine Wo ?_;refine R.buildSl jU jS jZ ?_;refine R.go ?_;refine R.call Tryz.call27 (c27 fzC vu (by decide) fzL ACj _) ?_
 rw [r9]
 refine Z77 ?_;refine R.fin [2,3,4] ?_;refine Z8 ?_;refine Z30 ?_;refine Z30 ?_;refine Z70 ?_;refine R.fin [3,29] ?_
 refine W.cond (fun ht29=>?_) (fun ht29=>?_)
 ·rw [List.length_map,zg] at ht29;cases ht29
 refine L1 ?_
 refine R.go (h:=Q.indexAddr (1) (A4 fzE) (fun _=>zf)) (hr:=?_)
 refine R.go ?_;refine R.call Tryz.call42 (c42 61 fzE (dj vw).ok (by decide) zh _) ?_
 rw [vz]
 refine Z77 ?_;refine R.fin [5,6] ?_;refine Lo ?_;refine Z0 ?_;refine R.fin [0] ?_;refine AW.ret ?_;exact K.fin (V.one V.tmp) ⟨by rfl,rfl⟩

theorem w4 {c:List Col} {ms:List Mov} {i:Nat} {t:List Expr} {m:Mov} (hk:ms[i]? = some m):M5 c ms i t=B1 (colsAt c ms (i+1)) t m.back:=by unfold M5;rw [List.getD_eq_getElem?_getD,hk];rfl
theorem Uf {c:List Col} {ms:List Mov} {z:Int} (hz:z≠0):∀i,i≤ms.length→Cb (colsAt c ms i) (ms.drop i)=([],z)→Cb c ms=([],z)
 | 0,_,h=>h
 | i+1,hi,h=>by
  have hk:ms[i]? = some ms[i]:=List.getElem?_eq_getElem (by omega)
  refine Uf hz i (by omega) ?_
  rw [I5 hk,Cb,←Do hk,h]
  exact if_pos (by simpa using hz)
theorem Yt {c:List Col} {ms:List Mov}:∀i,i≤ms.length→∀t,Cb (colsAt c ms i) (ms.drop i)=(t,0)→Cb c ms=Ki c ms i t
 | 0,_,t,h=>h
 | i+1,hi,t,h=>by
  have hk:ms[i]? = some ms[i]:=List.getElem?_eq_getElem (by omega)
  have e:Cb (colsAt c ms i) (ms.drop i)=if (M5 c ms i t).2 != 0 then ([],(M5 c ms i t).2) else (Ey (colsAt c ms i) (ms.getD i O5).take (M5 c ms i t).1 t (colsAt c ms (i+1)),0):=by
   rw [I5 hk,Cb,←Do hk,h,w4 hk,List.getD_eq_getElem?_getD,hk]
   exact if_neg (by simp)
  rw [Ki]
  split
  ·rename_i h1
   exact Uf (by simpa using h1) i (by omega) (e.trans (if_pos h1))
  rename_i h1
  exact Yt i (by omega) _ (e.trans (if_neg h1))
theorem w5 {c:List Col} {l:List Mov} (h:((D4 c l).2 != 0)=false):Rr c l=Cb c l:=by
 rw [N0 h]
 exact (Yt l.length (Nat.le_refl _) _ (by rw [List.drop_length];rfl)).symm
theorem Uh:∀(ms:List Mov) (c:List Col) (t:List Expr),(∀m∈ms,OkMov m)→Bf c=true→(∀m∈ms,Di m=true)→(Bn c ms).2=0→TOk t→t.length=c.length→TOk (G6 c t ms).1∧(G6 c t ms).1.length≤12
 | [],c,t,_,hc,_,_,ht,hl=>⟨ht,by have:=(Kc (by rw [Fv];exact hc)).1;rw [G6];show t.length≤12;omega⟩
 | m::r,c,t,hm,hc,hv,hs,ht,hl=>by
  have hmo:=hm m List.mem_cons_self
  have h2:=Rx hs
  have h3:=J1 h2.1
  unfold G6
  split
  ·exact ABd
  rename_i h4
  have h5:=J0 (c:=c) ht m.ahead hmo.ahead.ok hmo.ahead.rng (by simpa using h4)
  refine Uh r _ _ (fun x hx=>hm x (.tail _ hx)) h3.2.2 (fun x hx=>hv x (.tail _ hx)) h2.2 ⟨fun e he=>?_,fun e he=>?_⟩ ?_
  ·rcases List.mem_append.1 he with he|he
   ·exact ht.ok e (Gu e he)
   exact h5.ok e he
  ·rcases List.mem_append.1 he with he|he
   ·exact ht.rng e (Gu e he)
   exact h5.rng e he
  rw [h3.1,List.length_append,List.length_append,Ev,Gr hl.symm,Gs _ (by simpa using h4),(De (Gq (hv m List.mem_cons_self))).1]
theorem Ui {c:List Col} {l:List Mov} (b:Bool) (h:((Fz c l).2 != 0)=b):((D4 c l).2 != 0)=b:=by
 unfold D4
 split
 ·exact h
 exact h
theorem c31 (a:List Expr) (ha:∀e∈a,okE 61 e) (hl:a.length≤1048576) (Hp:List AObj):AFun Tryz.prog 31 [Au a,Au a] Hp (Ao true):=by
 refine ACall.body [.tmp 4] [0,1] Tryz.func31 Tryz.ntmps31 (fun d=>?_)
 refine Z57 ?_;refine L0 ?_;refine R.fin [0,1,10] ?_
 refine W.cond (fun ht10=>?_) (fun ht10=>?_)
 ·simp at ht10
 refine Pd ?_;refine R.fin [0,1,5] ?_
 refine AW.loopC (α:=Nat) (fun x=>⟨27,A3 0 (Au a) (A3 1 (Au a) (A3 5 (A2 (x:Nat)) (fun _=>.any))),Hp,[],[],none⟩) (fun x=>x≤a.length) (fun x=>a.length-x) (0) (Nat.zero_le _) (StLe.of_eq (by simp)) rfl (fun x hx=>?_)
 refine Z49 ?_;refine R.fin [0,1,5,14] ?_
 refine W.cond (fun ht14=>?_) (fun ht14=>?_)
 ·have hlt:x<a.length:=by simpa using ht14
  refine Z38 ?_;refine W.drawQ [0,0,3,7,0,0,48,112,255,511] 8 Ac (by kernel_rfl) ?_;refine Z14 ?_
  refine D.go (h:=Q.indexAddr (x) (A4 a[x]) (fun _=>Ad hlt)) (hr:=?_)
  refine Z44 ?_
  refine D.go (h:=Q.indexAddr (x) (A4 a[x]) (fun _=>Ad hlt)) (hr:=?_)
  refine ia ?_;refine R.call Tryz.call25 (c25 61 a[x] (ha _ (List.getElem_mem hlt)) a[x] _) ?_;refine R.go ?_;refine R.fin [0,1,5,26] ?_
  refine W.cond (fun ht26=>?_) (fun ht26=>?_)
  ·exfalso
   simp [Xb] at ht26
  refine Z65 ?_;refine R.fin [0,1,5] ?_;exact K.lpN (x+1) hlt (by omega) (StCut.of_eq rfl)
 refine Z40 ?_;refine Z2 ?_;exact rk

theorem c6 (c:List Col) (l:List Mov) (hrl:∀m∈l,RngMv m) (Hp:List AObj):AFun Tryz.prog 6 [A8 c,Ca l] Hp (Ao true):=by
 refine ACall.body [.tmp 4] [0,1] Tryz.func6 Tryz.ntmps6 (fun d=>?_)
 refine Z57 ?_;refine Z66 ?_;refine R.call Tryz.call20 (c20 _) ?_;refine R.go ?_;refine R.fin [0,1,16] ?_
 refine W.cond (fun ht16=>?_) (fun ht16=>?_)
 ·cases ht16
 refine Pd ?_;refine R.call Tryz.call9 (ADi c _) ?_;refine ie ?_;refine G.call Tryz.call10 (fun hB=>c10 l _) ?_;refine R.go ?_;refine R.fin [0,1,22] ?_
 refine W.cond (fun ht22=>?_) (fun ht22=>?_)
 ·refine Q7 ?_;refine K.thR ?_;exact iq
 have hw:Fh c=false∧G5 l=false:=by simpa using ht22
 have hc:=dn hw.1
 have hc2:c.length≤1000000:=r7 hw.1
 have hl:OkMovs l:=U4 hw.2 hrl
 refine Nj ?_;refine R.call Tryz.call27 (c27 c hc hc2 l hl _) ?_;refine Z77 ?_;refine R.fin [0,1,5,6] ?_;refine Z1 ?_;refine R.call Tryz.call28 (c28 c hc hc2 l hl _) ?_;refine Z77 ?_;refine R.fin [0,1,5,6,7,8] ?_;refine Z1 ?_;refine R.call Tryz.call15 (c15 c hc l hl _) ?_;refine Z77 ?_;refine R.fin [0,1,5,6,7,8,10] ?_;refine Z8 ?_;refine R.fin [0,1,5,6,7,8,42] ?_
 refine W.cond (fun ht42=>?_) (fun ht42=>?_)
 ·have hs:=Ui true ht42
  rw [Yf hs,f5 hs]
  refine Z43 ?_
  refine R.go (h:=Q.add64 (h1:=fun _=>by simp) (h2:=fun _=>by simp)) (hr:=?_)
  refine Z30 ?_;refine Z30 ?_;refine Z0 ?_;refine Z26 ?_;refine K.thR ?_;exact iq
 have hs:=Ui false ht42
 obtain ⟨hmay,hst,hss⟩:=Jb hs
 have hrc:Bf c=true:=by unfold Iy at hmay;simp only [Bool.and_eq_true] at hmay;exact hmay.1
 have hf:TOk (Hc c l).1∧(Hc c l).1.length≤12:=by rw [Kz hs];exact Uh l c _ hl.each hrc (Hr hmay) hst (Rq hc) (by simp [I8])
 have hb:TOk (Cb c l).1∧(Cb c l).1.length≤1048576:=by
  cases l with
  | nil=>exact ⟨(N2 [] c hc (fun _ h=>by cases h) rfl).tok,by simp [Cb,I8];omega⟩
  | cons m r =>
   by_cases he:(Cb c (m::r)).2=0
   ·have:=N2 (m::r) c hc hl.each he
    exact ⟨this.tok,by rw [this.len];omega⟩
   have:(Cb c (m::r)).1=[]:=by
    unfold Cb at he ⊢
    split
    ·rfl
    rename_i h1
    rw [if_neg h1] at he
    split
    ·rfl
    rename_i h2
    rw [if_neg h2] at he
    exact absurd rfl he
   rw [this]
   exact ABd
 obtain ⟨hb,hbl⟩:=hb
 rw [w5 hs]
 refine Nj ?_;refine R.call Tryz.call29 (c29 c hc l hl hs _) ?_;refine Z77 ?_;refine R.fin [0,1,5,6,7,8,11,12] ?_;refine Z1 ?_;refine R.call Tryz.call30 (c30 l c hc hl hrc (Hr hmay) hst _) ?_;refine Z77 ?_;refine R.fin [5,6,7,8,11,12,13,14] ?_;refine Zs ?_;refine Z30 ?_
 refine G.call Tryz.call31 (fun hB=>c31 (Hc c l).1 hf.1.ok (by have:=hf.2;omega) _) ?_
 refine Z30 ?_;refine G.call Tryz.call31 (fun hB=>c31 (Cb c l).1 hb.ok hbl _) ?_;refine Z0 ?_;refine Z26 ?_;exact K.fin (V.one V.tmp) ⟨by simp,rfl⟩

end Go.SX.Nb
