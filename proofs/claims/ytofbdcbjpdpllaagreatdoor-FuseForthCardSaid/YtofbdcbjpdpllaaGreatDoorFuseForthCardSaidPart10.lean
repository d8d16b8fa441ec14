/- On the way (part 10). -/
import Derived.Test.YtofbdcbjpdpllaaGreatDoorFuseForthCardSaidPart9
set_option linter.all false
namespace Go.SX.Nb
open Go Go.SX Go.Proofs
variable [ErrAt]
set_option maxRecDepth 4000
abbrev pmO (L:List Tok) (i:Nat):AObj:=.cells 144 [tg L,A5 (i:Int)]
abbrev mvC (m:Mov):List AV:=[A5 m.kind,.slice true 1 (m.take.map Ae),.slice true 2 (m.give.map Bq),.slice true 6 (m.ahead.map A9),.slice true 6 (m.back.map A9)]
abbrev mvO (m:Mov):AObj:=.cells 48 (mvC m)
abbrev Ra:AV:=.v (.tuple #[])
theorem Ff {n:Nat} {L:List Tok} {i:Nat}:ObjLow n (pmO L i):=by
 show ∀y∈[AV.slice false 3 (L.map Me),A5 (i:Int)],Low n y
 intro y hy
 simp only [B5,F5,or_false] at hy
 rcases hy with rfl|rfl
 ·simp [or_imp,forall_and]
 simp
/-- A contract of the parser, of sources that are right: it comes to what the model comes to. -/
structure CP (g:FuncId) (args:List AV) (H:List AObj) {α:Type} (X:PR α) (Q:α→Nat→AV→List AObj→Prop) (R:List AObj→Prop):Prop where
 run:(∃c j,X=.ok c j)→ACall Tryz.prog g args H (fun r H'=>∃c j,X=.ok c j∧Q c j r H')
theorem CP.ok {g:FuncId} {args:List AV} {H:List AObj} {α:Type} {X:PR α} {Q:α→Nat→AV→List AObj→Prop} {R:List AObj→Prop} {c:α} {j:Nat} (h:CP g args H X Q R) (hX:X=.ok c j):ACall Tryz.prog g args H (fun r H'=>Q c j r H'):=
 (h.run ⟨c,j,hX⟩).mono (fun r H' ⟨c',j',e,hq⟩=>by rw [hX] at e;injection e with e1 e2;subst e1;subst e2;exact hq)
theorem Do {α:Type} {X:PR α} {e a:Int} (h:∃c j,X=.ok c j) (hX:X=.bad e a):False:=by
 obtain ⟨c,j,h⟩:=h
 rw [hX] at h
 cases h
def PR.isOk {α:Type}:PR α→Bool
 | .ok _ _=>true
 | .bad _ _=>false
theorem AOr {α:Type} {X:PR α} (h:X.isOk=true):∃c j,X=.ok c j:=by
 cases X with
 | ok c j=>exact ⟨c,j,rfl⟩
 | bad e a=>cases h
/-- The parser's object alone has turned. -/
def W1 (L:List Tok) (o:Nat) (Hp H':List AObj):Prop:=∃j,H'=Hp.set o (pmO L j)
theorem AKk (L:List Tok) (i o:Nat) (Hp:List AObj) (ho:Hp[o]? = some (pmO L i)) (hi:i<L.length):AFun Tryz.prog 139 [.ptr o 0] Hp (Me (Ao L i)):=by
 refine Af [.cell 2 113] [0] Tryz.func139 Tryz.ntmps139 (fun d=>?_)
 refine AMa ?_;refine Z40 ?_
 refine Al (h:=Ca ho) (hr:=?_)
 refine Z40 ?_
 refine Al (h:=Ca ho) (hr:=?_)
 refine Ey ?_
 refine A4 (h:=Ac (i) (Me (Ao L i)) (fun _=>Y7 hi)) (hr:=?_)
 refine A4 ?_;exact AF2

theorem c233 (L:List Tok) (s:Str) (i o:Nat) (Hp:List AObj) (ho:Hp[o]? = some (pmO L i)) (hi:i<L.length):AFun Tryz.prog 233 [.ptr o 0,Ae s] Hp (Bk (isP L s i)):=by
 refine Af [.tmp 4] [0,1] Tryz.func233 Tryz.ntmps233 (fun d=>?_)
 refine Z61 ?_;refine AJ1 ?_;refine Z19 ?_;refine A2 [1,5] ?_;refine Z27 ?_;refine Xm ?_;refine ae ?_;exact o9

/-! Where the parser of moves comes to. -/
def PR.In {α:Type} (x:PR α) (i n:Nat):Prop:=∀r j,x=.ok r j→i<j∧j<n
theorem PR.bind_ok {α β:Type} {x:PR α} {f:α→Nat→PR β} {r:β} {j:Nat} (h:x.bind f=.ok r j):∃a k,x=.ok a k∧f a k=.ok r j:=by
 cases x with
 | ok a k=>exact ⟨a,k,rfl,h⟩
 | bad e a=>cases h
theorem AHn {L:List Tok} {s:Str} {i:Nat} (h:isP L s i=true):(Ao L i).kind≠0:=by
 unfold isP at h
 simp only [As,Dq,beq_iff_eq] at h
 rcases h.1 with h|h<;>rw [h]<;>decide
theorem Hz {L:List Tok} (hl:TokEnd L) {s:Str} {i:Nat} (hi:i<L.length):(Dp L s i).In i L.length:=by
 intro r j h
 unfold Dp at h
 split at h
 ·rename_i h1
  injection h with _ h
  subst h
  exact ⟨f5 i,hl.step hi (AHn h1)⟩
 cases h
theorem Jy {L:List Tok} (hl:TokEnd L) {i:Nat} (hi:i<L.length):(Ix L i).In i L.length:=by
 intro r j h
 unfold Ix at h
 split at h
 ·cases h
 rename_i h1
 injection h with _ h
 subst h
 have hk:(Ao L i).kind=1:=by simpa using h1
 exact ANe
theorem AHo {L:List Tok} (hl:TokEnd L) {nm:Str} {i:Nat} (hi:i<L.length):(uz L nm i).In i L.length:=by
 intro r j h
 unfold uz at h
 split at h
 ·cases h
 rename_i h1
 injection h with _ h
 subst h
 have hk:(Ao L i).kind=2:=by simp only [Tp,Ej,bne_eq_false_iff_eq] at h1;exact h1.1
 exact ANe
theorem dp {L:List Tok} (hl:TokEnd L) {i:Nat} (hi:i<L.length):(Lu L i).In i L.length:=by
 intro r j h
 obtain ⟨a,k,h1,h2⟩:=PR.bind_ok h
 obtain ⟨a1,a2⟩:=Jy hl hi _ _ h1
 obtain ⟨b1,b2⟩:=AHo hl a2 _ _ h2
 exact ⟨by omega,b2⟩
theorem Ti {L:List Tok} (hl:TokEnd L) (hll:L.length≤500000) {i:Nat} (hi:i<L.length) {x:Expr} {k:Nat} (h:Ov L i=.ok x k):i≤k∧k<L.length:=by
 unfold Ov at h
 split at h
 ·cases h
 rename_i h0
 injection h with _ h
 subst h
 have h0:(atM L i).2.2.1=0:=by simpa using h0
 have hq:=Yp hl (by omega:L.length≤1048576) hi
 unfold atM at h0 ⊢
 split at h0
 ·rename_i h1
  have:(atS L i (atR L i)).code=0:=h0
  rw [this] at h1
  cases h1
 rename_i h1
 rw [if_neg h1]
 have e:(atS L i (atR L i)).i=(atR L i).2.i:=by
  unfold atS
  repeat' split
  all_goals first|rfl|exact failM_i.1
 show i≤((atS L i (atR L i)).i:Int).toNat∧((atS L i (atR L i)).i:Int).toNat<_
 rw [Int.toNat_natCast,e]
 exact ⟨hq.le,hq.lt⟩
/-- A move has no more parts than so many. -/
structure MvLe (m:Mov) (n:Nat):Prop where
 take:m.take.length≤n
 give:m.give.length≤n
 ahead:m.ahead.length≤n
 back:m.back.length≤n
theorem MvLe.mono {m:Mov} {i j:Nat} (h:MvLe m i) (hij:i≤j):MvLe m j:=⟨Jg h.take hij,Jg h.give hij,Jg h.ahead hij,Jg h.back hij⟩
/-- What a part of a move comes to. -/
def AKl (x:PR Mov) (i n:Nat):Prop:=∀m j,x=.ok m j→i≤j∧j<n∧MvLe m (2*j)
/-- A part of a move that goes on from i. -/
def b9 (L:List Tok) (one:Mov→Nat→PR Mov):Prop:=∀m i,MvLe m (2*i-1)→0<i→i<L.length→AKl (one m i) i L.length
theorem N4 {L:List Tok} (hl:TokEnd L) (hll:L.length≤500000):b9 L (Gl L):=by
 intro m i hm _ hi m' k h
 obtain ⟨c,j,h1,h2⟩:=PR.bind_ok h
 obtain ⟨u,j2,h3,h4⟩:=PR.bind_ok h2
 obtain ⟨x,j3,h5,h6⟩:=PR.bind_ok h4
 injection h6 with h6 h7
 subst h6;subst h7
 have a1:=dp hl hi _ _ h1
 have a2:=Hz hl a1.2 _ _ h3
 have a3:=Ti hl hll a2.2 h5
 obtain ⟨b1,b2,b3,b4⟩:=hm
 exact ⟨by omega,a3.2,by show m.take.length≤_;omega,by show (m.give++[c]).length≤_;rw [Ai,Kp];omega,by show (m.ahead++[x]).length≤_;rw [Ai,Kp];omega,by show m.back.length≤_;omega⟩
theorem mv {L:List Tok} (hl:TokEnd L) (hll:L.length≤500000):b9 L (Vw L):=by
 intro m i hm h0 hi m' k h
 obtain ⟨x,j,h1,h2⟩:=PR.bind_ok h
 injection h2 with h6 h7
 subst h6;subst h7
 have a3:=Ti hl hll hi h1
 obtain ⟨b1,b2,b3,b4⟩:=hm
 exact ⟨by omega,a3.2,by show m.take.length≤_;omega,by show m.give.length≤_;omega,by show m.ahead.length≤_;omega,by show (m.back++[x]).length≤_;rw [Ai,Kp];omega⟩
theorem Zq {L:List Tok} (hl:TokEnd L):b9 L (Th L):=by
 intro m i hm _ hi m' k h
 obtain ⟨s,j,h1,h2⟩:=PR.bind_ok h
 injection h2 with h6 h7
 subst h6;subst h7
 have a1:=Jy hl hi _ _ h1
 obtain ⟨b1,b2,b3,b4⟩:=hm
 exact ⟨by omega,a1.2,by show (m.take++[s]).length≤_;rw [Ai,Kp];omega,by show m.give.length≤_;omega,by show m.ahead.length≤_;omega,by show m.back.length≤_;omega⟩
theorem Om {L:List Tok} {s:Str} {i:Nat} {u:Unit} {j:Nat} (h:Dp L s i=.ok u j):j=i+1:=by
 unfold Dp at h
 split at h
 ·injection h with _ h;exact h.symm
 cases h
theorem mw {L:List Tok} (hl:TokEnd L) {n:Int} {one:Mov→Nat→PR Mov} (hP:b9 L one):∀(f k:Nat) (m:Mov) (i:Nat),MvLe m (2*i)→0<i→i<L.length→AKl (Tg L n one f k m i) i L.length
 | 0,k,m,i,hm,h0,hi=>fun m' j h=>by
  injection h with h1 h2
  subst h1;subst h2
  exact ⟨Ak _,hi,hm⟩
 | f+1,k,m,i,hm,h0,hi=>fun m' j h=>by
  rw [Tg] at h
  split at h
  ·obtain ⟨u,j1,h1,h2⟩:=PR.bind_ok h
   obtain ⟨m1,j2,h3,h4⟩:=PR.bind_ok h2
   have e:=Om h1
   have a1:=Hz hl hi _ _ h1
   obtain ⟨b1,b2,b3⟩:=hP m j1 (hm.mono (by omega)) (by omega) a1.2 _ _ h3
   obtain ⟨c1,c2,c3⟩:=mw hl hP f (k+1) m1 j2 b3 (by omega) b2 _ _ h4
   exact p9
  injection h with h1 h2
  subst h1;subst h2
  exact ⟨Ak _,hi,hm⟩
theorem Tj {L:List Tok} (hl:TokEnd L) {n:Int} {one:Mov→Nat→PR Mov} (hP:b9 L one):b9 L (Jw L n one):=by
 intro m i hm h0 hi m' k h
 obtain ⟨m1,j,h1,h2⟩:=PR.bind_ok h
 obtain ⟨b1,b2,b3⟩:=hP m i hm h0 hi _ _ h1
 obtain ⟨c1,c2,c3⟩:=mw hl hP _ _ m1 j b3 (by omega) b2 _ _ h2
 exact p9
theorem Wu {L:List Tok} (hl:TokEnd L) (hll:L.length≤500000) {m:Mov} {i:Nat} (hm:MvLe m (2*i)) (hi:i<L.length):AKl (Hj L m i) i L.length:=by
 intro m' k h
 obtain ⟨u,j,h1,h2⟩:=PR.bind_ok h
 have e:=Om h1
 have a1:=Hz hl hi _ _ h1
 obtain ⟨c1,c2,c3⟩:=Tj hl (mv hl hll) m j (hm.mono (by omega)) (by omega) a1.2 _ _ h2
 exact p9
theorem zi {L:List Tok} (hl:TokEnd L):b9 L (Lv L):=by
 intro m i hm h0 hi m' k h
 obtain ⟨s,j,h1,h2⟩:=PR.bind_ok h
 obtain ⟨u,j2,h3,h4⟩:=PR.bind_ok h2
 obtain ⟨t,j3,h5,h6⟩:=PR.bind_ok h4
 injection h6 with h6 h7
 subst h6;subst h7
 have a1:=Jy hl hi _ _ h1
 have a2:=Hz hl a1.2 _ _ h3
 have a3:=Jy hl a2.2 _ _ h5
 exact ⟨by omega,a3.2,by show 1≤_;omega,by show 1≤_;omega,by show 1≤_;omega,by show 1≤_;omega⟩
theorem MvLe.takeS {m:Mov} {n:Nat} (h:MvLe m n) {s:Str} (h1:1≤n):MvLe (takeS m s) n:=⟨h1,h.give,h.ahead,h.back⟩
theorem vd {L:List Tok} (hl:TokEnd L) (hll:L.length≤500000):b9 L (Jx L):=by
 intro m i hm h0 hi m' k h
 unfold Jx at h
 split at h
 ·exact N4 hl hll m i hm h0 hi _ _ h
 split at h
 ·obtain ⟨s,j,h1,h2⟩:=PR.bind_ok h
  have a1:=Jy hl hi _ _ h1
  obtain ⟨c1,c2,c3⟩:=Wu hl hll ((hm.mono (by omega:2*i-1≤2*j)).takeS (by omega)) a1.2 _ _ h2
  exact p9
 split at h
 ·exact zi hl m i hm h0 hi _ _ h
 split at h
 ·obtain ⟨s,j,h1,h2⟩:=PR.bind_ok h
  obtain ⟨u,j2,h3,h4⟩:=PR.bind_ok h2
  obtain ⟨m1,j3,h5,h6⟩:=PR.bind_ok h4
  have a1:=Jy hl hi _ _ h1
  have a2:=Hz hl a1.2 _ _ h3
  obtain ⟨b1,b2,b3⟩:=Tj hl (N4 hl hll) (takeS m s) j2 ((hm.mono (by omega:2*i-1≤2*j2-1)).takeS (by omega)) (by omega) a2.2 _ _ h5
  obtain ⟨c1,c2,c3⟩:=Wu hl hll b3 b2 _ _ h6
  exact p9
 split at h
 ·obtain ⟨m1,j,h1,h2⟩:=PR.bind_ok h
  obtain ⟨u,j2,h3,h4⟩:=PR.bind_ok h2
  obtain ⟨m2,j3,h5,h6⟩:=PR.bind_ok h4
  obtain ⟨b1,b2,b3⟩:=Tj hl (Zq hl) m i hm h0 hi _ _ h1
  have e:=Om h3
  have a2:=Hz hl b2 _ _ h3
  obtain ⟨d1,d2,d3⟩:=N4 hl hll m1 j2 (b3.mono (by omega)) (by omega) a2.2 _ _ h5
  obtain ⟨c1,c2,c3⟩:=Wu hl hll d3 d2 _ _ h6
  exact p9
 split at h
 ·obtain ⟨m1,j,h1,h2⟩:=PR.bind_ok h
  obtain ⟨d1,d2,d3⟩:=N4 hl hll m i hm h0 hi _ _ h1
  obtain ⟨c1,c2,c3⟩:=Wu hl hll (d3.takeS (by omega)) d2 _ _ h2
  exact p9
 injection h with h1 h2
 subst h1;subst h2
 exact ⟨Ak _,hi,hm.mono (by omega)⟩
def Zr:=@PR.bind_ok
theorem rx (L:List Tok) (s:Str) (i o:Nat) (Hp:List AObj) (ho:Hp[o]? = some (pmO L i)) (hi:i<L.length) (hll:L.length≤500000):CP 181 [.ptr o 0,Ae s] Hp (Dp L s i) (fun _ j r H'=>r=Ra∧H'=Hp.set o (pmO L j)) (W1 L o Hp):=by
 refine ⟨fun hX=>?_⟩
 refine Af [] [0,1] Tryz.func181 Tryz.ntmps181 (fun d=>?_)
 refine Z8 ?_;refine Aa Tryz.call233 (c233 L s i o _ (Ag ho) hi) ?_;refine A4 ?_;refine A2 [0,7] ?_
 refine A3 (fun ht7=>?_) (fun ht7=>?_)
 ·have hq:isP L s i=false:=by simpa using ht7
  have e:Dp L s i=.bad 8 (Ao L i).at_:=if_neg (by rw [hq];simp)
  exact ABr
 have hq:isP L s i=true:=by simpa using ht7
 have e:Dp L s i=.ok () (i+1):=if_pos hq
 refine Z5 ?_;refine Z34 ?_
 refine A4 (h:=Ca ho) (hr:=?_)
 refine Z22 ?_
 refine Fu jS ho ?_ ?_
 ·simp
 refine A2 [] ?_;exact Fv .nores (hp:=⟨(),i+1,e,rfl,rfl⟩)

theorem zj (L:List Tok) (i o:Nat) (Hp:List AObj) (ho:Hp[o]? = some (pmO L i)) (hi:i<L.length) (hll:L.length≤500000):CP 227 [.ptr o 0] Hp (Ix L i) (fun s j r H'=>r=Ae s∧H'=Hp.set o (pmO L j)) (W1 L o Hp):=by
 refine ⟨fun hX=>?_⟩
 refine Af [.tmp 2] [0] Tryz.func227 Tryz.ntmps227 (fun d=>?_)
 refine Z43 ?_;refine AJ1 ?_;refine Z19 ?_;refine Ln ?_;refine Z36 ?_;refine A2 [0,3,8] ?_
 refine A3 (fun ht8=>?_) (fun ht8=>?_)
 ·have e:Ix L i=.bad 8 (Ao L i).at_:=if_pos ht8
  exact ABr
 have e:Ix L i=.ok (Ao L i).text (i+1):=if_neg (by rw [ht8];simp)
 refine Z82 ?_
 refine A4 (h:=Ca ho) (hr:=?_)
 refine Z22 ?_
 refine Fu jS ho ?_ ?_
 ·simp
 refine A2 [3] ?_;refine Z17 ?_;refine Z3 ?_;exact A8 (Ah A6) (hp:=⟨_,i+1,e,rfl,rfl⟩)

theorem getset {Hp:List AObj} {o:Nat} {A B:AObj} (h:Hp[o]? = some A):(Hp.set o B)[o]? = some B:=by
 have:=(Ad.1 h).1
 simp [this]
theorem ARo (L:List Tok) (i o:Nat) (Hp:List AObj) (ho:Hp[o]? = some (pmO L i)) (hi:i<L.length) (hl:TokEnd L) (hll:L.length≤500000):CP 281 [.ptr o 0] Hp (Lu L i) (fun c j r H'=>r=Bq c∧H'=Hp.set o (pmO L j)) (W1 L o Hp):=by
 refine ⟨fun hX=>?_⟩
 refine Af [.cell 2 41] [0] Tryz.func281 Tryz.ntmps281 (fun d=>?_)
 refine Z76 ?_
 rcases hN:Ix L i with ⟨s,j⟩|⟨e,a⟩
 rotate_left
 ·exact (Do hX (by first|exact by unfold Lu;rw [hN];rfl|exact hN)).elim
 have hj:j<L.length:=(Jy hl hi _ _ hN).2
 have e0:Lu L i=uz L s j:=by unfold Lu;rw [hN];rfl
 refine Z2 ?_;refine C2 (x:=pmO L j) Tryz.call227 ho (by simp) Ff ((zj L i o _ (Ag ho) hi hll).ok hN) ?_;refine gk ?_;refine ju ?_;refine Z2 ?_;refine Aa Tryz.call139 (AKk L j o _ (Ag (getset ho)) hj) ?_;refine Z19 ?_;refine A2 [0,2,3,4] ?_;refine Z8 ?_;refine Aa Tryz.call314 (APt (Ao L j).text _) ?_;refine A4 ?_;refine Iq ?_;refine A2 [0,2,3,4] ?_;refine Z27 ?_;refine Sr ?_;refine A2 [0,2,3,21] ?_
 refine A3 (fun ht21=>?_) (fun ht21=>?_)
 ·have e:Lu L i=.bad 8 (Ao L j).at_:=by rw [e0];exact if_pos ht21
  exact ABr
 have e:Lu L i=.ok ⟨s,Vn (Ao L j).text⟩ (j+1):=by rw [e0];exact if_neg (by rw [ht21];simp)
 refine Z82 ?_
 refine A4 (h:=Ca (getset ho)) (hr:=?_)
 refine Z22 ?_
 refine Fu jS (getset ho) ?_ ?_
 ·simp
 refine Lo ?_;refine Z2 ?_;refine Z15 ?_;exact A8 (Ah (Bu jA jS)) (hp:=⟨_,j+1,e,rfl,by rw [Dy];rfl⟩)

theorem AOs (L:List Tok) (i o:Nat) (Hp:List AObj) (ho:Hp[o]? = some (pmO L i)) (hi:i<L.length) (hl:TokEnd L) (hll:L.length≤500000):CP 282 [.ptr o 0] Hp (Ov L i) (fun c j r H'=>r=A9 c∧H'=Hp.set o (pmO L j)) (W1 L o Hp):=by
 refine ⟨fun hX=>?_⟩
 refine Af [.cell 2 26] [0] Tryz.func282 Tryz.ntmps282 (fun d=>?_)
 refine Z76 ?_;refine Ip [0,1,3,7,0,16,48,112,255,511,1023,1023,1023,0,0,26623,61439,131071] [] [.q 13 [] [],.s [3] none [] [],.s [5] none [] [],.s [3] none [] [],.q 1 [] [],.s [5] none [] []] (fun _=>Hp) (fun _=>[.cells 26 [A5 0,Ae [],A5 0,A5 0,Ae [],.nil]]) An (by kernel_rfl) rfl rfl (fun _=>rfl) ?_
 apply Y.q
 ·intro B hT hF
  refine Z40 ?_
  refine Al (h:=Ca ho) (hr:=?_)
  refine Z40 ?_
  refine Al (h:=Ca ho) (hr:=?_)
  refine E1 Tryz.call72 (c72 L i hi hl hll (fun n Dv h1 h2=>z8 hl (by omega) n Dv h1 h2) _) ?_;exact AB5
 case hTF=>decide
 refine Y.allocP Tryz.zeroValue26 ?_;refine Y.allocP Tryz.zeroValue69 ?_;refine Y.storeP Tryz.sizeOf26 ?_
 apply Y.q
 ·intro B hT hF
  exact Xh
 case hTF=>decide
 refine Y.storeP Tryz.sizeOf69 ?_;refine Ha (tn:=[])  ?_;refine A2 [0,2,3,4,5] ?_;refine Z36 ?_;refine A2 [0,2,3,4,5,21] ?_
 refine A3 (fun ht21=>?_) (fun ht21=>?_)
 ·have e:Ov L i=.bad (atM L i).2.2.1 (atM L i).2.2.2:=if_pos ht21
  exact ABr
 obtain ⟨k,hk,hkl⟩:=AGw hl (by omega) hi (by simpa using ht21)
 have e:Ov L i=.ok (atM L i).1 k:=(if_neg (by rw [ht21];simp)).trans (by rw [hk];rfl)
 rw [hk]
 refine Z5 ?_;refine Z27 ?_
 refine Fu jS ho ?_ ?_
 ·simp
 refine Lo ?_;refine Z2 ?_;refine Z15 ?_;exact A8 (Ah (Bu jA jS)) (hp:=⟨_,k,e,(At _).symm,rfl⟩) (hlow:=by have:=Av Hp.length (atM L i).1;rw [At] at this;exact this)

/-- The parser's object and the move's, turned. -/
def U2 (L:List Tok) (Hp:List AObj) (o om i:Nat) (x:AObj):List AObj:=(Hp.set o (pmO L i)).set om x
theorem U2_len {L:List Tok} {Hp:List AObj} {o om i:Nat} {x:AObj}:(U2 L Hp o om i x).length=Hp.length:=by simp [U2]
theorem H1 {L:List Tok} {Hp:List AObj} {o om i:Nat} {x z:AObj} (hm:Hp[om]? = some z):(U2 L Hp o om i x)[om]? = some x:=gB hm
theorem Fs {L:List Tok} {Hp:List AObj} {o om i:Nat} {x z:AObj} (ho:Hp[o]? = some z) (hne:om≠o):(U2 L Hp o om i x)[o]? = some (pmO L i):=gA ho hne
theorem Gt {L:List Tok} {Hp:List AObj} {o om i j:Nat} {x:AObj} (hne:om≠o):(U2 L Hp o om i x).set o (pmO L j)=U2 L Hp o om j x:=ADs hne
theorem U2_setm {L:List Tok} {Hp:List AObj} {o om i:Nat} {x y:AObj}:(U2 L Hp o om i x).set om y=U2 L Hp o om i y:=Dy ..
theorem Tk {L:List Tok} {Hp:List AObj} {o om i:Nat} {x:AObj} (ho:Hp[o]? = some (pmO L i)) (hm:Hp[om]? = some x):U2 L Hp o om i x=Hp:=by unfold U2;rw [Is ho,Is hm]
theorem Ir {L:List Tok} {Hp:List AObj} {o om i q:Nat} {x:AObj} (h1:q≠o) (h2:q≠om):(U2 L Hp o om i x)[q]? = Hp[q]? := by unfold U2;rw [Dr (Ne.symm h2),Dr (Ne.symm h1)]
def W2 (L:List Tok) (o om:Nat) (Hp H':List AObj):Prop:=∃j m,H'=U2 L Hp o om j (mvO m)
theorem S9 {n k:Nat} {o:Bool} {l:List Expr} {x:Expr}:Low n (.slice o k (l.map A9++[.agg (Eb x)])):=by
 rw [show AV.agg (Eb x)=A9 x from (At x).symm];exact Mk
theorem I0 {n:Nat} {m:Mov}:ObjLow n (mvO m):=by
 show ∀y∈mvC m,Low n y
 intro y hy
 simp only [mvC,B5,F5,or_false] at hy
 rcases hy with rfl|rfl|rfl|rfl|rfl
 all_goals first|exact F1|simp [or_imp,forall_and]
theorem zk {L:List Tok} {Hp:List AObj} {o om i:Nat} {m:Mov} {c:Col} {x:AObj}:(U2 L Hp o om i x).set om (.cells 48 [A5 m.kind,.slice true 1 (m.take.map Ae),.slice true 2 (m.give.map Bq++[Bq c]),.slice true 6 (m.ahead.map A9),.slice true 6 (m.back.map A9)])=U2 L Hp o om i (mvO (Ex m c)):=by
 rw [U2_setm];simp only [mvO,mvC,Ex,By,Bz,Ek]
theorem zl {L:List Tok} {Hp:List AObj} {o om i:Nat} {m:Mov} {e:Expr} {x:AObj}:(U2 L Hp o om i x).set om (.cells 48 [A5 m.kind,.slice true 1 (m.take.map Ae),.slice true 2 (m.give.map Bq),.slice true 6 (m.ahead.map A9++[.agg (Eb e)]),.slice true 6 (m.back.map A9)])=U2 L Hp o om i (mvO (v6 m e)):=by
 rw [U2_setm,show AV.agg (Eb e)=A9 e from (At e).symm];simp only [mvO,mvC,v6,By,Bz,Ek]
theorem zm {L:List Tok} {Hp:List AObj} {o om i:Nat} {m:Mov} {e:Expr} {x:AObj}:(U2 L Hp o om i x).set om (.cells 48 [A5 m.kind,.slice true 1 (m.take.map Ae),.slice true 2 (m.give.map Bq),.slice true 6 (m.ahead.map A9),.slice true 6 (m.back.map A9++[.agg (Eb e)])])=U2 L Hp o om i (mvO (v7 m e)):=by
 rw [U2_setm,show AV.agg (Eb e)=A9 e from (At e).symm];simp only [mvO,mvC,v7,By,Bz,Ek]
theorem zn {L:List Tok} {Hp:List AObj} {o om i:Nat} {m:Mov} {s:Str} {x:AObj}:(U2 L Hp o om i x).set om (.cells 48 [A5 m.kind,.slice true 1 (m.take.map Ae++[Ae s]),.slice true 2 (m.give.map Bq),.slice true 6 (m.ahead.map A9),.slice true 6 (m.back.map A9)])=U2 L Hp o om i (mvO (v8 m s)):=by
 rw [U2_setm];simp only [mvO,mvC,v8,By,Bz,Ek]

theorem AHp (L:List Tok) (m:Mov) (i o om:Nat) (Hp:List AObj) (hne:om≠o) (ho:Hp[o]? = some (pmO L i)) (hm:Hp[om]? = some (mvO m)) (hi:i<L.length) (hl:TokEnd L) (hll:L.length≤500000) (hb:MvLe m (2*i-1)):CP 226 [.ptr o 0,.ptr om 0] Hp (Gl L m i) (fun m' j r H'=>r=Ra∧H'=U2 L Hp o om j (mvO m')) (W2 L o om Hp):=by
 refine ⟨fun hX=>?_⟩
 have:=hb.take;have:=hb.give;have:=hb.ahead;have:=hb.back
 refine Af [] [0,1] Tryz.func226 Tryz.ntmps226 (fun d=>?_)
 rcases hC:Lu L i with ⟨c,j⟩|⟨e,a⟩
 rotate_left
 ·exact (Do hX (by first|exact by unfold Gl;rw [hC];rfl|exact hC)).elim
 have hj:=dp hl hi _ _ hC
 refine Ip [0,0,2,6,14,0,32,96,254,511,1023,2047] [4,6] [.q 4 [] [],.s [8] (some 0) [] [],.q 1 [] [1],.s [10] (some 1) [] [],.q 1 [1] [],.s [8,12] none [0,1] []] (fun B=>U2 L Hp o om (if B 1=true then j else i) (if B 0=true then .cells 48 [A5 m.kind,.slice true 1 (m.take.map Ae),.slice false 2 (m.give.map Bq),.slice true 6 (m.ahead.map A9),.slice true 6 (m.back.map A9)] else .cells 48 [A5 m.kind,.slice true 1 (m.take.map Ae),.slice true 2 (m.give.map Bq),.slice true 6 (m.ahead.map A9),.slice true 6 (m.back.map A9)])) (fun _=>[]) An (by kernel_rfl) (Tk ho hm) rfl (fun B=>U2_len) ?_
 apply Y.q
 ·intro B hT hF
  exact AB5
 case hTF=>decide
 refine U4 (o:=om) (t':=48) (cs:=[A5 m.kind,.slice true 1 (m.take.map Ae),.slice true 2 (m.give.map Bq),.slice true 6 (m.ahead.map A9),.slice true 6 (m.back.map A9)]) (cs':=[A5 m.kind,.slice true 1 (m.take.map Ae),.slice false 2 (m.give.map Bq),.slice true 6 (m.ahead.map A9),.slice true 6 (m.back.map A9)]) Tryz.isAgg27 (fun B hB=>⟨by simp only [hB];exact H1 hm,U2_setm.symm,rfl⟩) ?_
 apply Y.q
 ·intro B hT hF
  exact Xh
 case hTF=>decide
 refine O9 (r:=Bq c) (o:=o) (x0:=pmO L i) (x:=pmO L j) Tryz.call281 (fun B hB1 hB2 hB=>⟨by simp only [hB];exact Fs ho hne,(Gt hne).symm,rfl,Ff,?_⟩) ?_
 ·simp only [hB]
  exact (ARo L i o _ (Ag (Fs ho hne)) hi hl hll).ok hC
 apply Y.q
 ·intro B hT hF
  exact Z62
 case hTF=>decide
 refine Y.append jU Tryz.type41 ?_ ?_ ?_
 ·simp [Tryz.t41];omega
 ·simp [Tryz.t41];omega
 refine Ha (tn:=[4,6]) (U:=U2 L Hp o om j (.cells 48 [A5 m.kind,.slice true 1 (m.take.map Ae),.slice false 2 (m.give.map Bq),.slice true 6 (m.ahead.map A9),.slice true 6 (m.back.map A9)])) ?_;refine Z0 ?_
 refine Io jS (H1 hm) ?_ ?_
 ·simp [or_imp,forall_and]
 refine A2 [0,1] ?_;refine S8 (zk (m:=m) (c:=c)) ?_
 rcases hW:Dp L [61] j with ⟨u,j2⟩|⟨e,a⟩
 rotate_left
 ·exact (Do hX (by first|exact by unfold Gl;rw [hC];show (Dp L [61] j).bind _=_;rw [hW];rfl|exact hW)).elim
 have hj2:=Hz hl hj.2 _ _ hW
 refine Z2 ?_;refine C2 (x:=pmO L j2) Tryz.call181 (Fs ho hne) (by simp) Ff ((rx L [61] j o _ (Ag (Fs ho hne)) hj.2 hll).ok hW) ?_
 rw [Gt hne]
 refine A2 [0,1] ?_
 rcases hT:Ov L j2 with ⟨x,k⟩|⟨e,a⟩
 rotate_left
 ·exact (Do hX (by first|exact by unfold Gl;rw [hC];show (Dp L [61] j).bind _=_;rw [hW];show (Ov L j2).bind _=_;rw [hT];rfl|exact hT)).elim
 have hk:=Ti hl hll hj2.2 hT
 refine W.drawT0 [0,1,3,7,0,16,15,0,255,511,1023,511,2559,6655] [3,5] [.q 3 [] [0],.s [20] (some 0) [] [],.q 1 [] [1],.s [22] (some 1) [] [],.q 2 [] []] (fun B=>U2 L Hp o om (if B 1=true then k else j2) (if B 0=true then .cells 48 [A5 (Ex m c).kind,.slice true 1 ((Ex m c).take.map Ae),.slice true 2 ((Ex m c).give.map Bq),.slice false 6 ((Ex m c).ahead.map A9),.slice true 6 ((Ex m c).back.map A9)] else .cells 48 [A5 (Ex m c).kind,.slice true 1 ((Ex m c).take.map Ae),.slice true 2 ((Ex m c).give.map Bq),.slice true 6 ((Ex m c).ahead.map A9),.slice true 6 ((Ex m c).back.map A9)])) (fun _=>[]) An (by kernel_rfl) rfl rfl (fun B=>by rw [U2_len];exact U2_len.symm) ?_
 apply Y.q
 ·intro B hT hF
  exact wn
 case hTF=>decide
 refine U4 (o:=om) (t':=48) (cs:=[A5 (Ex m c).kind,.slice true 1 ((Ex m c).take.map Ae),.slice true 2 ((Ex m c).give.map Bq),.slice true 6 ((Ex m c).ahead.map A9),.slice true 6 ((Ex m c).back.map A9)]) (cs':=[A5 (Ex m c).kind,.slice true 1 ((Ex m c).take.map Ae),.slice true 2 ((Ex m c).give.map Bq),.slice false 6 ((Ex m c).ahead.map A9),.slice true 6 ((Ex m c).back.map A9)]) Tryz.isAgg24 (fun B hB=>⟨by simp only [hB];exact H1 hm,U2_setm.symm,rfl⟩) ?_
 apply Y.q
 ·intro B hT hF
  exact Xh
 case hTF=>decide
 refine O9 (r:=A9 x) (o:=o) (x0:=pmO L j2) (x:=pmO L k) Tryz.call282 (fun B hB1 hB2 hB=>⟨by simp only [hB];exact Fs ho hne,(Gt hne).symm,rfl,Ff,?_⟩) ?_
 ·simp only [hB]
  exact (AOs L j2 o _ (Ag (Fs ho hne)) hj2.2 hl hll).ok hT
 apply Y.q
 ·intro B hT hF
  exact AB7
 case hTF=>decide
 refine Y.appendPut4 (tn:=[3,5]) (U:=U2 L Hp o om k (.cells 48 [A5 (Ex m c).kind,.slice true 1 ((Ex m c).take.map Ae),.slice true 2 ((Ex m c).give.map Bq),.slice false 6 ((Ex m c).ahead.map A9),.slice true 6 ((Ex m c).back.map A9)])) (O:=[]) (o:=om) (t':=48) (cs:=[A5 (Ex m c).kind,.slice true 1 ((Ex m c).take.map Ae),.slice true 2 ((Ex m c).give.map Bq),.slice false 6 ((Ex m c).ahead.map A9),.slice true 6 ((Ex m c).back.map A9)]) (by kernel_rfl) jU Tryz.type26 Tryz.sizeOf26 Tryz.sizeOf24 jU (Ag (H1 hm)) ?_ ?_ ?_ (hfsz:=Tryz.sizeOf24)
 ·simp [Tryz.t26,Ex];omega
 ·simp [Tryz.t26,Ex];omega
 refine Z0 ?_
 refine Io jS (H1 hm) ?_ ?_
 ·exact S9
 refine A2 [] ?_;exact Fv .nores (hp:=⟨v6 (Ex m c) x,k,by unfold Gl;rw [hC];show (Dp L [61] j).bind _=_;rw [hW];show (Ov L j2).bind _=_;rw [hT];rfl,rfl,by exact zl (m:=Ex m c)⟩)

/-- What is asked of a part of a move that is a closure. -/
def ve (L:List Tok) (o om g:Nat) (caps:List AV) (Hp:List AObj) (one:Mov→Nat→PR Mov):Prop:=
 ∀m i,MvLe m (2*i-1)→0<i→i<L.length→CP g caps (U2 L Hp o om i (mvO m)) (one m i) (fun m' j r H'=>r=Ra∧H'=U2 L Hp o om j (mvO m')) (W2 L o om Hp)
theorem Li {L:List Tok} {Hp:List AObj} {o om i j:Nat} {x y:AObj} (hne:om≠o):U2 L (U2 L Hp o om i x) o om j y=U2 L Hp o om j y:=by
 unfold U2
 rw [ADs hne,Dy]
theorem AEc {L:List Tok} {Hp H':List AObj} {o om i:Nat} {x:AObj} (hne:om≠o) (h:W2 L o om (U2 L Hp o om i x) H'):W2 L o om Hp H':=by
 obtain ⟨j,m,e⟩:=h
 exact ⟨j,m,by rw [e,Li hne]⟩
theorem ARp (L:List Tok) (m:Mov) (i o om bp bm:Nat) (Hp:List AObj) (hne:om≠o) (ho:Hp[o]? = some (pmO L i)) (hm:Hp[om]? = some (mvO m)) (hbp:Hp[bp]? = some (.cells 142 [.ptr o 0])) (hbm:Hp[bm]? = some (.cells 227 [.ptr om 0])) (hi:i<L.length) (hl:TokEnd L) (hll:L.length≤500000) (hb:MvLe m (2*i-1)):CP 283 [.ptr bm 0,.ptr bp 0] Hp (Vw L m i) (fun m' j r H'=>r=Ra∧H'=U2 L Hp o om j (mvO m')) (W2 L o om Hp):=by
 refine ⟨fun hX=>?_⟩
 have n1:bp≠o:=fun e=>by rw [e,ho] at hbp;simp at hbp
 have n2:bp≠om:=fun e=>by rw [e,hm] at hbp;simp at hbp
 have n3:bm≠o:=fun e=>by rw [e,ho] at hbm;simp at hbm
 have n4:bm≠om:=fun e=>by rw [e,hm] at hbm;simp at hbm
 have:=hb.take;have:=hb.give;have:=hb.ahead;have:=hb.back
 refine Af [] [0,1] Tryz.func283 Tryz.ntmps283 (fun d=>?_)
 refine W.flip An (by kernel_rfl) Tryz.zeroValue4 Tryz.sizeOf4 Tryz.isAgg4 (fun fb=>?_)
 refine bg [0,1,3] (by simp only [go_sem,↓reduceIte,Nat.reduceEqDiff,Nat.reduceAdd]<;>rfl) ?_
 refine A3 (fun ht3=>?_) (fun ht3=>?_)
 ·rcases hT:Ov L i with ⟨x,k⟩|⟨e,a⟩
  rotate_left
  ·exact ANf
  have hk:=Ti hl hll hi hT
  refine W.drawZ0 [0,1,3,7,0,16,15,0,255,511,1023,2047] [3,5] [.q 3 [] [0],.s [7] (some 0) [] [],.q 1 [] [1],.s [9] (some 1) [] [],.q 2 [] []] (fun B=>U2 L Hp o om (if B 1=true then k else i) (if B 0=true then .cells 48 [A5 m.kind,.slice true 1 (m.take.map Ae),.slice true 2 (m.give.map Bq),.slice true 6 (m.ahead.map A9),.slice false 6 (m.back.map A9)] else .cells 48 [A5 m.kind,.slice true 1 (m.take.map Ae),.slice true 2 (m.give.map Bq),.slice true 6 (m.ahead.map A9),.slice true 6 (m.back.map A9)])) (fun _=>[.cells 4 [.v (.bool fb)]]) An (by kernel_rfl) (Tk ho hm) rfl (fun B=>U2_len) ?_
  apply Y.q
  ·intro B hT hF
   refine Al (h:=Ca ((Ir n3 n4).trans hbm)) (hr:=?_)
   exact oa
  case hTF=>decide
  refine U4 (o:=om) (t':=48) (cs:=[A5 m.kind,.slice true 1 (m.take.map Ae),.slice true 2 (m.give.map Bq),.slice true 6 (m.ahead.map A9),.slice true 6 (m.back.map A9)]) (cs':=[A5 m.kind,.slice true 1 (m.take.map Ae),.slice true 2 (m.give.map Bq),.slice true 6 (m.ahead.map A9),.slice false 6 (m.back.map A9)]) Tryz.isAgg24 (fun B hB=>⟨by simp only [hB];exact H1 hm,U2_setm.symm,rfl⟩) ?_
  apply Y.q
  ·intro B hT hF
   refine Al (h:=Ca ((Ir n1 n2).trans hbp)) (hr:=?_)
   exact an
  case hTF=>decide
  refine O9 (r:=A9 x) (o:=o) (x0:=pmO L i) (x:=pmO L k) Tryz.call282 (fun B hB1 hB2 hB=>⟨by simp only [hB];exact Fs ho hne,(Gt hne).symm,rfl,Ff,?_⟩) ?_
  ·simp only [hB]
   exact ANg
  apply Y.q
  ·intro B hT hF
   exact AB7
  case hTF=>decide
  refine Y.put2 (tn:=[3,5]) (U:=U2 L Hp o om k (.cells 48 [A5 m.kind,.slice true 1 (m.take.map Ae),.slice true 2 (m.give.map Bq),.slice true 6 (m.ahead.map A9),.slice false 6 (m.back.map A9)])) (O:=[.cells 4 [.v (.bool fb)]]) (o:=om) (t':=48) (cs:=[A5 m.kind,.slice true 1 (m.take.map Ae),.slice true 2 (m.give.map Bq),.slice true 6 (m.ahead.map A9),.slice false 6 (m.back.map A9)]) jU Tryz.type26 Tryz.sizeOf26 Tryz.sizeOf24 jU (Ag (H1 hm)) ?_ ?_ ?_ (hfsz:=Tryz.sizeOf24)
  ·simp [Tryz.t26];omega
  ·simp [Tryz.t26];omega
  refine Z0 ?_
  refine Io jS (H1 hm) ?_ ?_
  ·exact S9
  exact ALb
 rcases hT:Ov L i with ⟨x,k⟩|⟨e,a⟩
 rotate_left
 ·exact ANf
 have hk:=Ti hl hll hi hT
 refine Xe [0,0,2,6,14,0,32,96,254,511,1023,2047] [4,6] [.q 4 [] [],.s [20] (some 0) [] [],.q 1 [] [1],.s [22] (some 1) [] [],.q 1 [1] [],.s [20,24] none [0,1] []] (fun B=>U2 L Hp o om (if B 1=true then k else i) (if B 0=true then .cells 48 [A5 m.kind,.slice true 1 (m.take.map Ae),.slice true 2 (m.give.map Bq),.slice true 6 (m.ahead.map A9),.slice false 6 (m.back.map A9)] else .cells 48 [A5 m.kind,.slice true 1 (m.take.map Ae),.slice true 2 (m.give.map Bq),.slice true 6 (m.ahead.map A9),.slice true 6 (m.back.map A9)])) (fun _=>[.cells 4 [.v (.bool fb)]]) An (by kernel_rfl) (Tk ho hm) rfl (fun B=>U2_len) ?_
 apply Y.q
 ·intro B hT hF
  refine Al (h:=Ca ((Ir n3 n4).trans hbm)) (hr:=?_)
  refine Al (h:=Ca ((Ir n3 n4).trans hbm)) (hr:=?_)
  exact oa
 case hTF=>decide
 refine U4 (o:=om) (t':=48) (cs:=[A5 m.kind,.slice true 1 (m.take.map Ae),.slice true 2 (m.give.map Bq),.slice true 6 (m.ahead.map A9),.slice true 6 (m.back.map A9)]) (cs':=[A5 m.kind,.slice true 1 (m.take.map Ae),.slice true 2 (m.give.map Bq),.slice true 6 (m.ahead.map A9),.slice false 6 (m.back.map A9)]) Tryz.isAgg24 (fun B hB=>⟨by simp only [hB];exact H1 hm,U2_setm.symm,rfl⟩) ?_
 apply Y.q
 ·intro B hT hF
  refine Al (h:=Ca ((Ir n1 n2).trans hbp)) (hr:=?_)
  exact an
 case hTF=>decide
 refine O9 (r:=A9 x) (o:=o) (x0:=pmO L i) (x:=pmO L k) Tryz.call282 (fun B hB1 hB2 hB=>⟨by simp only [hB];exact Fs ho hne,(Gt hne).symm,rfl,Ff,?_⟩) ?_
 ·simp only [hB]
  exact ANg
 apply Y.q
 ·intro B hT hF
  exact Z62
 case hTF=>decide
 refine Y.append jU Tryz.type26 ?_ ?_ ?_
 ·simp [Tryz.t26];omega
 ·simp [Tryz.t26];omega
 refine Ha (tn:=[4,6]) (U:=U2 L Hp o om k (.cells 48 [A5 m.kind,.slice true 1 (m.take.map Ae),.slice true 2 (m.give.map Bq),.slice true 6 (m.ahead.map A9),.slice false 6 (m.back.map A9)])) ?_;refine Z0 ?_
 refine Io jS (H1 hm) ?_ ?_
 ·exact S9
 exact ALb

theorem Jz {L:List Tok} {Hp:List AObj} {o om i j n:Nat} {x y:AObj} (hne:om≠o) (hy:ObjLow n y) (h:∀z∈U2 L Hp o om i x,ObjLow n z):∀z∈U2 L Hp o om j y,ObjLow n z:=by
 intro z hz
 rw [show U2 L Hp o om j y=((U2 L Hp o om i x).set o (pmO L j)).set om y by rw [Gt hne,U2_setm]] at hz
 rcases Mr hz with hz|rfl
 ·rcases Mr hz with hz|rfl
  ·exact h z hz
  exact Ff
 exact hy
theorem Gc {L:List Tok} {Hp own:List AObj} {o om i:Nat} {x:AObj} (h1:o<Hp.length) (h2:om<Hp.length):U2 L (Hp++own) o om i x=U2 L Hp o om i x++own:=by
 unfold U2
 rw [Lj _ _ h1,Lj _ _ (by simpa using h2)]
/-- Where the loop of things with commas between stands. -/
structure ListAt (L:List Tok) (n:Int) (one:Mov→Nat→PR Mov) (X:PR Mov) (x:Nat×Mov×Nat):Prop where
 lt:x.2.2<L.length
 pos:0<x.2.2
 le:MvLe x.2.1 (2*x.2.2)
 k:x.1≤x.2.2
 fuel:∃f,X=Tg L n one f x.1 x.2.1 x.2.2∧L.length-x.2.2<f
theorem ListAt.step {L:List Tok} {n:Int} {one:Mov→Nat→PR Mov} {X:PR Mov} {x:Nat×Mov×Nat} (h:ListAt L n one X x) (hq:Vu L n x.1 x.2.2=true):∃f,X=((Dp L [44] x.2.2).bind fun _ j=>(one x.2.1 j).bind fun m j=>Tg L n one f (x.1+1) m j)∧L.length-x.2.2<f+1:=by
 obtain ⟨f,e,hf⟩:=h.fuel
 obtain ⟨f,rfl⟩:∃g,f=g+1:=⟨f-1,by omega⟩
 refine ⟨f,?_,hf⟩
 rw [e,Tg,if_pos hq]
theorem ListAt.on {L:List Tok} (hl:TokEnd L) {n:Int} {one:Mov→Nat→PR Mov} (hP:b9 L one) {X:PR Mov} {x:Nat×Mov×Nat} (h:ListAt L n one X x) (hq:Vu L n x.1 x.2.2=true) {u:Unit} {j:Nat} (hW:Dp L [44] x.2.2=.ok u j) {m2:Mov} {j2:Nat} (hO:one x.2.1 j=.ok m2 j2):ListAt L n one X (x.1+1,m2,j2)∧x.2.2<j2:=by
 obtain ⟨f,e,hf⟩:=h.step hq
 have h1:=Hz hl h.lt _ _ hW
 have hj:j=x.2.2+1:=by
  unfold Dp at hW
  split at hW
  ·injection hW with _ h;exact h.symm
  cases hW
 obtain ⟨a1,a2,a3⟩:=hP x.2.1 j (h.le.mono (by omega)) (by omega) h1.2 _ _ hO
 have:=h.k
 refine ⟨⟨a2,by show 0<j2;omega,a3,by show x.1+1≤j2;omega,f,?_,by show L.length-j2<f;omega⟩,by omega⟩
 rw [e,hW]
 show (one x.2.1 j).bind _=_
 rw [hO];rfl
theorem ListAt.bad1 {L:List Tok} {n:Int} {one:Mov→Nat→PR Mov} {X:PR Mov} {x:Nat×Mov×Nat} (h:ListAt L n one X x) (hq:Vu L n x.1 x.2.2=true) {e a:Int} (hW:Dp L [44] x.2.2=.bad e a):X=.bad e a:=by
 obtain ⟨f,e,_⟩:=h.step hq
 rw [e,hW];rfl
theorem ListAt.bad2 {L:List Tok} {n:Int} {one:Mov→Nat→PR Mov} {X:PR Mov} {x:Nat×Mov×Nat} (h:ListAt L n one X x) (hq:Vu L n x.1 x.2.2=true) {u:Unit} {j:Nat} (hW:Dp L [44] x.2.2=.ok u j) {e a:Int} (hO:one x.2.1 j=.bad e a):X=.bad e a:=by
 obtain ⟨f,e,_⟩:=h.step hq
 rw [e,hW]
 show (one x.2.1 j).bind _=_
 rw [hO];rfl
theorem ListAt.out {L:List Tok} {n:Int} {one:Mov→Nat→PR Mov} {X:PR Mov} {x:Nat×Mov×Nat} (h:ListAt L n one X x) (hq:Vu L n x.1 x.2.2=false):X=.ok x.2.1 x.2.2:=by
 obtain ⟨f,e,hf⟩:=h.fuel
 obtain ⟨f,rfl⟩:∃g,f=g+1:=⟨f-1,by omega⟩
 rw [e,Tg,if_neg (by rw [hq];simp)]
theorem c232 (L:List Tok) (m:Mov) (i o om bp bm:Nat) (Hp:List AObj) (hne:om≠o) (ho:Hp[o]? = some (pmO L i)) (hm:Hp[om]? = some (mvO m)) (hbp:Hp[bp]? = some (.cells 142 [.ptr o 0])) (hbm:Hp[bm]? = some (.cells 227 [.ptr om 0])) (hi:i<L.length) (hl:TokEnd L) (hll:L.length≤500000) (hb:MvLe m (2*i-1)):CP 232 [.ptr bm 0,.ptr bp 0] Hp (Th L m i) (fun m' j r H'=>r=Ra∧H'=U2 L Hp o om j (mvO m')) (W2 L o om Hp):=by
 refine ⟨fun hX=>?_⟩
 have n1:bp≠o:=fun e=>by rw [e,ho] at hbp;simp at hbp
 have n2:bp≠om:=fun e=>by rw [e,hm] at hbp;simp at hbp
 have n3:bm≠o:=fun e=>by rw [e,ho] at hbm;simp at hbm
 have n4:bm≠om:=fun e=>by rw [e,hm] at hbm;simp at hbm
 have:=hb.take;have:=hb.give;have:=hb.ahead;have:=hb.back
 refine Af [] [0,1] Tryz.func232 Tryz.ntmps232 (fun d=>?_)
 rcases hT:Ix L i with ⟨s,k⟩|⟨e,a⟩
 rotate_left
 ·exact (Do hX (by first|exact by unfold Th;rw [hT];rfl|exact hT)).elim
 have hk:=Jy hl hi _ _ hT
 refine Xe [0,0,2,6,14,0,32,96,254,511,1023,2047] [4,6] [.q 4 [] [],.s [6] (some 0) [] [],.q 1 [] [1],.s [8] (some 1) [] [],.q 1 [1] [],.s [6,10] none [0,1] []] (fun B=>U2 L Hp o om (if B 1=true then k else i) (if B 0=true then .cells 48 [A5 m.kind,.slice false 1 (m.take.map Ae),.slice true 2 (m.give.map Bq),.slice true 6 (m.ahead.map A9),.slice true 6 (m.back.map A9)] else .cells 48 [A5 m.kind,.slice true 1 (m.take.map Ae),.slice true 2 (m.give.map Bq),.slice true 6 (m.ahead.map A9),.slice true 6 (m.back.map A9)])) (fun _=>[]) An (by kernel_rfl) (Tk ho hm) rfl (fun B=>U2_len) ?_
 apply Y.q
 ·intro B hT hF
  refine Al (h:=Ca ((Ir n3 n4).trans hbm)) (hr:=?_)
  refine Al (h:=Ca ((Ir n3 n4).trans hbm)) (hr:=?_)
  exact oa
 case hTF=>decide
 refine U4 (o:=om) (t':=48) (cs:=[A5 m.kind,.slice true 1 (m.take.map Ae),.slice true 2 (m.give.map Bq),.slice true 6 (m.ahead.map A9),.slice true 6 (m.back.map A9)]) (cs':=[A5 m.kind,.slice false 1 (m.take.map Ae),.slice true 2 (m.give.map Bq),.slice true 6 (m.ahead.map A9),.slice true 6 (m.back.map A9)]) Tryz.isAgg45 (fun B hB=>⟨by simp only [hB];exact H1 hm,U2_setm.symm,rfl⟩) ?_
 apply Y.q
 ·intro B hT hF
  refine Al (h:=Ca ((Ir n1 n2).trans hbp)) (hr:=?_)
  exact an
 case hTF=>decide
 refine O9 (r:=Ae s) (o:=o) (x0:=pmO L i) (x:=pmO L k) Tryz.call227 (fun B hB1 hB2 hB=>⟨by simp only [hB];exact Fs ho hne,(Gt hne).symm,rfl,Ff,?_⟩) ?_
 ·simp only [hB]
  exact (zj L i o _ (Ag (Fs ho hne)) hi hll).ok hT
 apply Y.q
 ·intro B hT hF
  exact Z62
 case hTF=>decide
 refine Y.append jU Tryz.type9 ?_ ?_ ?_
 ·simp [Tryz.t9];omega
 ·simp [Tryz.t9];omega
 refine Ha (tn:=[4,6]) (U:=U2 L Hp o om k (.cells 48 [A5 m.kind,.slice false 1 (m.take.map Ae),.slice true 2 (m.give.map Bq),.slice true 6 (m.ahead.map A9),.slice true 6 (m.back.map A9)])) ?_;refine Z0 ?_
 refine Io jS (H1 hm) ?_ ?_
 ·simp [or_imp,forall_and]
 refine A2 [] ?_;exact Fv .nores (hp:=⟨v8 m s,k,by unfold Th;rw [hT];rfl,rfl,by exact zn⟩)

theorem ARq (L:List Tok) (m:Mov) (i o om bp bm:Nat) (Hp:List AObj) (hne:om≠o) (ho:Hp[o]? = some (pmO L i)) (hm:Hp[om]? = some (mvO m)) (hbp:Hp[bp]? = some (.cells 142 [.ptr o 0])) (hbm:Hp[bm]? = some (.cells 227 [.ptr om 0])) (hi:i<L.length) (hl:TokEnd L) (hll:L.length≤500000) (hb:MvLe m (2*i-1)):CP 231 [.ptr bp 0,.ptr bm 0] Hp (Gl L m i) (fun m' j r H'=>r=Ra∧H'=U2 L Hp o om j (mvO m')) (W2 L o om Hp):=by
 refine ⟨fun hX=>?_⟩
 have hol:=(Ad.1 ho).1
 have hml:=(Ad.1 hm).1
 have n1:bp≠o:=fun e=>by rw [e,ho] at hbp;simp at hbp
 have n2:bp≠om:=fun e=>by rw [e,hm] at hbp;simp at hbp
 have n3:bm≠o:=fun e=>by rw [e,ho] at hbm;simp at hbm
 have n4:bm≠om:=fun e=>by rw [e,hm] at hbm;simp at hbm
 have:=hb.take;have:=hb.give;have:=hb.ahead;have:=hb.back
 refine Af [] [0,1] Tryz.func231 Tryz.ntmps231 (fun d=>?_)
 refine ABs ?_
 rcases hT:Gl L m i with ⟨m2,k⟩|⟨e,a⟩
 rotate_left
 ·exact (Do hX hT).elim
 refine K8 ?_
 refine A4 (h:=Ca ((Ir n1 n2).trans hbp)) (hr:=?_)
 refine A4 (h:=Ca ((Ir n3 n4).trans hbm)) (hr:=?_)
 refine Kb (up':=U2 L Hp o om k (mvO m2)) (own':=[]) Tryz.call226 (((AHp L m i o om _ hne (Ag (Fs ho hne)) (Ag (H1 hm)) hi hl hll hb).ok hT).mono (fun r H' e=>⟨e.1,e.2.trans (by rw [H4,H4,Li hne])⟩)) (by rw [U2_len,U2_len]) (fun h=>Jz hne I0 h) ?_;refine A2 [] ?_;exact Fv .nores (hp:=⟨m2,k,rfl,rfl,rfl⟩)

theorem AKm (L:List Tok) (n:Int) (m:Mov) (i o om g:Nat) (caps:List AV) (one:Mov→Nat→PR Mov) (Hp:List AObj) (hne:om≠o) (ho:Hp[o]? = some (pmO L i)) (hm:Hp[om]? = some (mvO m)) (h0:0<i) (hi:i<L.length) (hl:TokEnd L) (hll:L.length≤500000) (hb:MvLe m (2*i-1)) (hcall:∀args w,(callFunc g args).run Tryz.prog w=.ok (.enter g args) w) (hC:ve L o om g caps Hp one) (hP:b9 L one):CP 230 [.ptr o 0,A5 n,.fn (.func g) [] caps] Hp (Jw L n one m i) (fun m' j r H'=>r=Ra∧H'=U2 L Hp o om j (mvO m')) (W2 L o om Hp):=by
 refine ⟨fun hX=>?_⟩
 have hol:=(Ad.1 ho).1
 have hml:=(Ad.1 hm).1
 refine Af [] [0,1,2] Tryz.func230 Tryz.ntmps230 (fun d=>?_)
 refine ABs ?_
 rcases h1:one m i with ⟨m1,j1⟩|⟨e,a⟩
 rotate_left
 ·exact (Do hX (by first|exact by unfold Jw;rw [h1];rfl|exact h1)).elim
 have g1:=hP m i hb h0 hi _ _ h1
 have e0:Jw L n one m i=Tg L n one (L.length+1) 1 m1 j1:=by unfold Jw;rw [h1];rfl
 refine Z2 ?_
 refine R.callVX (up':=U2 L Hp o om j1 (mvO m1)) (own':=[]) hcall (by rw [H4,H4];exact (hC m i hb h0 hi).ok h1) (by rw [U2_len,U2_len]) (fun h=>Jz hne I0 h) ?_
 refine Wb ?_;refine Z2 ?_;refine A2 [0,1,2,6] ?_
 refine B7 (α:=Nat×Mov×Nat) (fun x=>⟨30,A7 0 (.ptr o 0) (A7 1 (A5 n) (A7 2 (.fn (.func g) [] caps) (A7 6 (A5 (x.1:Int)) (fun _=>.any)))),U2 L Hp o om x.2.2 (mvO x.2.1),[],[],none⟩) (fun x=>ListAt L n one (Jw L n one m i) x) (fun x=>L.length-x.2.2) ((1,m1,j1)) ⟨g1.2.1,by show 0<j1;omega,g1.2.2,by show 1≤j1;omega,_,e0,by show L.length-j1<_;omega⟩ (G8 _) rfl (fun x hx=>?_)
 refine Z8 ?_;refine ot ?_;refine Z39 ?_;refine Bt Tryz.call233 (fun hB=>c233 L [44] x.2.2 o _ (Ag (Fs ho hne)) hx.lt) ?_;refine Qw ?_;refine A2 [0,1,2,6,23] ?_
 refine A3 (fun ht23=>?_) (fun ht23=>?_)
 ·have hq:Vu L n x.1 x.2.2=true:=ht23
  refine Z50 ?_
  rcases hW:Dp L [44] x.2.2 with ⟨u,j⟩|⟨e,a⟩
  rotate_left
  ·exact (Do hX (by first|exact hx.bad1 hq hW|exact hW)).elim
  have hj:=Hz hl hx.lt _ _ hW
  have hpos:=hx.pos
  refine Z2 ?_;refine C2 (x:=pmO L j) Tryz.call181 (Fs ho hne) (by simp) Ff ((rx L [44] x.2.2 o _ (Ag (Fs ho hne)) hx.lt hll).ok hW) ?_
  rw [Gt hne]
  refine A2 [0,1,2,6] ?_
  rcases hO:one x.2.1 j with ⟨m2,j2⟩|⟨e,a⟩
  rotate_left
  ·exact (Do hX (by first|exact hx.bad2 hq hW hO|exact hO)).elim
  have hon:=hx.on hl hP hq hW hO
  refine Z66 ?_
  refine R.callVX (up':=U2 L Hp o om j2 (mvO m2)) (own':=[]) hcall (by rw [H4,H4];exact (hC x.2.1 j (hx.le.mono (by omega)) (by omega) hj.2).ok hO) (by rw [U2_len,U2_len]) (fun h=>Jz hne I0 h) ?_
  refine A2 [0,1,2,6] ?_;refine Z10 ?_;refine Z66 ?_
  refine A4 (h:=Q.add64 (h2:=fun _=>by have:=hx.k;have:=hx.lt;omega)) (hr:=?_)
  refine A4 ?_;refine A2 [0,1,2,6] ?_
  refine Bb (x.1+1,m2,j2) hon.1 (by have:=hx.lt;have:=hon.2;show L.length-j2<L.length-x.2.2;omega) (Cg rfl)
 have hq:Vu L n x.1 x.2.2=false:=ht23
 have e:=hx.out hq
 refine x7 ?_;exact Fv .nores (hp:=⟨_,_,e,rfl,rfl⟩)

theorem CP.mono {g:FuncId} {args:List AV} {H:List AObj} {α:Type} {X:PR α} {Q Q':α→Nat→AV→List AObj→Prop} {R R':List AObj→Prop} (h:CP g args H X Q R) (hQ:∀c j r H',Q c j r H'→Q' c j r H') (hR:∀H',R H'→R' H'):CP g args H X Q' R':=
 ⟨fun hX=>(h.run hX).mono (fun r H' ⟨c,j,e,hq⟩=>⟨c,j,e,hQ _ _ _ _ hq⟩)⟩
section
variable {L:List Tok} {o om bp bm:Nat} {X:List AObj} {z z':AObj}
theorem zo (hne:om≠o) (ho:X[o]? = some z) (hm:X[om]? = some z') (hbp:X[bp]? = some (.cells 142 [.ptr o 0])) (hbm:X[bm]? = some (.cells 227 [.ptr om 0])) (n1:bp≠o) (n2:bp≠om) (n3:bm≠o) (n4:bm≠om) (hl:TokEnd L) (hll:L.length≤500000):ve L o om 283 [.ptr bm 0,.ptr bp 0] X (Vw L):=
 fun m i hb _ hi=>(ARp L m i o om bp bm (U2 L X o om i (mvO m)) hne (Fs ho hne) (H1 hm) ((Ir n1 n2).trans hbp) ((Ir n3 n4).trans hbm) hi hl hll hb).mono (fun c j r H' e=>⟨e.1,e.2.trans (Li hne)⟩) (fun H' h=>AEc hne h)
theorem zp (hne:om≠o) (ho:X[o]? = some z) (hm:X[om]? = some z') (hbp:X[bp]? = some (.cells 142 [.ptr o 0])) (hbm:X[bm]? = some (.cells 227 [.ptr om 0])) (n1:bp≠o) (n2:bp≠om) (n3:bm≠o) (n4:bm≠om) (hl:TokEnd L) (hll:L.length≤500000):ve L o om 232 [.ptr bm 0,.ptr bp 0] X (Th L):=
 fun m i hb _ hi=>(c232 L m i o om bp bm (U2 L X o om i (mvO m)) hne (Fs ho hne) (H1 hm) ((Ir n1 n2).trans hbp) ((Ir n3 n4).trans hbm) hi hl hll hb).mono (fun c j r H' e=>⟨e.1,e.2.trans (Li hne)⟩) (fun H' h=>AEc hne h)
theorem zq (hne:om≠o) (ho:X[o]? = some z) (hm:X[om]? = some z') (hbp:X[bp]? = some (.cells 142 [.ptr o 0])) (hbm:X[bm]? = some (.cells 227 [.ptr om 0])) (n1:bp≠o) (n2:bp≠om) (n3:bm≠o) (n4:bm≠om) (hl:TokEnd L) (hll:L.length≤500000):ve L o om 231 [.ptr bp 0,.ptr bm 0] X (Gl L):=
 fun m i hb _ hi=>(ARq L m i o om bp bm (U2 L X o om i (mvO m)) hne (Fs ho hne) (H1 hm) ((Ir n1 n2).trans hbp) ((Ir n3 n4).trans hbm) hi hl hll hb).mono (fun c j r H' e=>⟨e.1,e.2.trans (Li hne)⟩) (fun H' h=>AEc hne h)
end
attribute [go_sem] U2_len
theorem zr {L:List Tok} {Hp own:List AObj} {o om i n:Nat} {x z:AObj} (h:own[n]? = some z):(U2 L Hp o om i x++own)[oid Hp.length n]? = some z:=by
 unfold oid
 rw [List.getElem?_append_right (by rw [U2_len];omega),U2_len,Nat.add_sub_cancel_left]
 exact h
theorem Lf {n k o:Nat} (h:o<n):oid n k≠o:=by unfold oid;omega
theorem AHq (L:List Tok) (m:Mov) (i o om:Nat) (Hp:List AObj) (hne:om≠o) (ho:Hp[o]? = some (pmO L i)) (hm:Hp[om]? = some (mvO m)) (hi:i<L.length) (hl:TokEnd L) (hll:L.length≤500000) (hb:MvLe m (2*i)):CP 228 [.ptr o 0,.ptr om 0] Hp (Hj L m i) (fun m' j r H'=>r=Ra∧H'=U2 L Hp o om j (mvO m')) (W2 L o om Hp):=by
 refine ⟨fun hX=>?_⟩
 have hol:=(List.getElem?_eq_some_iff.1 ho).1
 have hml:=(List.getElem?_eq_some_iff.1 hm).1
 refine ACall.body [] [0,1] Tryz.func228 Tryz.ntmps228 (fun d=>?_)
 refine wx ?_;refine R.box ?_;refine Lo ?_;refine ABs ?_
 rcases hW:Dp L AEb i with ⟨u,j⟩|⟨e,a⟩
 rotate_left
 ·exact (Do hX (by first|exact by unfold Hj;rw [hW];rfl|exact hW)).elim
 have hj:=Hz hl hi _ _ hW
 refine Z2 ?_;refine R.callUp (x:=pmO L j) Tryz.call181 (Fs ho hne) (by simp) Ff ((rx L AEb i o _ (Ag (Fs ho hne)) hi hll).ok hW) ?_
 rw [Gt hne]
 refine Lo ?_
 rcases hP:Jw L ((m.take.map Ae).length:Int) (Vw L) m j with ⟨m2,k⟩|⟨e,a⟩
 rotate_left
 ·exact (Do hX (by first|exact by unfold Hj;rw [hW];show Jw L _ _ m j=_;rw [←hP,List.length_map]|exact hP)).elim
 refine W.drawQ0 [0,0,2,6,14,30,0,127] 7 An (by kernel_rfl) ?_;refine Z84 ?_
 refine D.go (h:=Q.loadUp (H1 hm)) (hr:=?_)
 refine D.go ?_;refine D.makeFunc ?_;refine D.tail ?_
 refine R.callX (up':=U2 L Hp o om k (mvO m2)) (own':=[.cells 142 [.ptr o 0],.cells 227 [.ptr om 0]]) Tryz.call230 (((AKm L (((m.take.map Ae).length:Int)) m j o om 283 [.ptr (oid Hp.length 1) 0,.ptr (oid Hp.length 0) 0] (Vw L) (U2 L Hp o om j (mvO m)++[.cells 142 [.ptr o 0],.cells 227 [.ptr om 0]]) hne (Ag (Fs ho hne)) (Ag (H1 hm)) (by omega) hj.2 hl hll (hb.mono (by omega)) Tryz.call283 (zo (z:=pmO L j) (z':=mvO m) hne (Ag (Fs ho hne)) (Ag (H1 hm)) (zr rfl) (zr rfl) (Lf hol) (Lf hml) (Lf hol) (Lf hml) hl hll) (mv hl hll)).ok hP).mono (fun r H' e=>⟨e.1,e.2.trans (by first|rw [Gc (by rw [U2_len];exact hol) (by rw [U2_len];exact hml),Li hne]|rw [Gc hol hml])⟩)) (by first|rfl|rw [U2_len,U2_len]|rw [U2_len]) (fun h=>Jz hne I0 h) ?_
 refine R.fin [] ?_;exact K.finN .nores (hp:=⟨m2,k,by unfold Hj;rw [hW];show Jw L _ _ m j=_;rw [←hP,List.length_map],rfl,rfl⟩)

theorem dq {L:List Tok} {Hp:List AObj} {o om i:Nat} {m:Mov} {s:Str} {x:AObj}:(U2 L Hp o om i x).set om (.cells 48 [A5 m.kind,.slice true 1 [Ae s],.slice true 2 (m.give.map Bq),.slice true 6 (m.ahead.map A9),.slice true 6 (m.back.map A9)])=U2 L Hp o om i (mvO (takeS m s)):=U2_setm
theorem vf {n:Nat} {x:Expr}:Low n (.slice true 6 [.agg (Eb x)]):=by
 have:=F1 (n:=n) (k:=6) (o:=true) (l:=[x])
 simp only [Bz,Ek] at this
 rw [At] at this
 exact this
theorem mx {n:Nat} {x:Expr}:Low n (.slice true 6 [A9 x]):=F1 (l:=[x])
theorem AEd {L:List Tok} {m m1:Mov} {i k:Nat} (h:Gl L m i=.ok m1 k):(m1.give.map Bq)[0]? = some (Bq (m1.give.getD 0 ⟨[],0⟩)):=by
 obtain ⟨c,j,h1,h2⟩:=Zr h
 obtain ⟨u,j2,h3,h4⟩:=Zr h2
 obtain ⟨x,j3,h5,h6⟩:=Zr h4
 injection h6 with h6 h7
 subst h6
 show ((m.give++[c]).map Bq)[0]? = some (Bq ((m.give++[c]).getD 0 ⟨[],0⟩))
 cases m.give<;>rfl
section
variable {L:List Tok} {m:Mov} {i:Nat}
theorem AEe (h1:(m.kind==1)=true):Jx L m i=Gl L m i:=if_pos h1
theorem ry (h1:(m.kind==1)=false) (h2:(m.kind==2)=true):Jx L m i=(Ix L i).bind fun s j=>Hj L (takeS m s) j:=by
 unfold Jx;rw [if_neg (by rw [h1];simp),if_pos h2]
theorem AEf (h1:(m.kind==1)=false) (h2:(m.kind==2)=false) (h3:(m.kind==3)=true):Jx L m i=Lv L m i:=by
 unfold Jx;rw [if_neg (by rw [h1];simp),if_neg (by rw [h2];simp),if_pos h3]
theorem Zs (h1:(m.kind==1)=false) (h2:(m.kind==2)=false) (h3:(m.kind==3)=false) (h4:(m.kind==4)=true):Jx L m i=(Ix L i).bind fun s j=>(Dp L Lh j).bind fun _ j=>(Jw L 0 (Gl L) (takeS m s) j).bind fun m j=>Hj L m j:=by
 unfold Jx;rw [if_neg (by rw [h1];simp),if_neg (by rw [h2];simp),if_neg (by rw [h3];simp),if_pos h4]
theorem Zt (h1:(m.kind==1)=false) (h2:(m.kind==2)=false) (h3:(m.kind==3)=false) (h4:(m.kind==4)=false) (h5:(m.kind==5)=true):Jx L m i=(Jw L 0 (Th L) m i).bind fun m j=>(Dp L Lh j).bind fun _ j=>(Gl L m j).bind fun m j=>Hj L m j:=by
 unfold Jx;rw [if_neg (by rw [h1];simp),if_neg (by rw [h2];simp),if_neg (by rw [h3];simp),if_neg (by rw [h4];simp),if_pos h5]
theorem rz (h1:(m.kind==1)=false) (h2:(m.kind==2)=false) (h3:(m.kind==3)=false) (h4:(m.kind==4)=false) (h5:(m.kind==5)=false) (h6:(m.kind==6)=true):Jx L m i=(Gl L m i).bind fun m j=>Hj L (takeS m (m.give.getD 0 ⟨[],0⟩).name) j:=by
 unfold Jx;rw [if_neg (by rw [h1];simp),if_neg (by rw [h2];simp),if_neg (by rw [h3];simp),if_neg (by rw [h4];simp),if_neg (by rw [h5];simp),if_pos h6]
theorem AKn (h1:(m.kind==1)=false) (h2:(m.kind==2)=false) (h3:(m.kind==3)=false) (h4:(m.kind==4)=false) (h5:(m.kind==5)=false) (h6:(m.kind==6)=false):Jx L m i=.ok m i:=by
 unfold Jx;rw [if_neg (by rw [h1];simp),if_neg (by rw [h2];simp),if_neg (by rw [h3];simp),if_neg (by rw [h4];simp),if_neg (by rw [h5];simp),if_neg (by rw [h6];simp)]
end
theorem ARr (L:List Tok) (m:Mov) (i o om:Nat) (Hp:List AObj) (hne:om≠o) (ho:Hp[o]? = some (pmO L i)) (hm:Hp[om]? = some (mvO m)) (hi:i<L.length) (hl:TokEnd L) (hll:L.length≤500000) (hb:MvLe m (2*i-1)):CP 229 [.ptr o 0,.ptr om 0] Hp (Lv L m i) (fun m' j r H'=>r=Ra∧H'=U2 L Hp o om j (mvO m')) (W2 L o om Hp):=by
 refine ⟨fun hX=>?_⟩
 refine Af [] [0,1] Tryz.func229 Tryz.ntmps229 (fun d=>?_)
 refine ABs ?_
 rcases h1:Ix L i with ⟨s,j⟩|⟨e,a⟩
 rotate_left
 ·exact (Do hX (by first|exact by unfold Lv;rw [h1];rfl|exact h1)).elim
 have hj:=Jy hl hi _ _ h1
 refine Z1 ?_;refine C2 (x:=pmO L j) Tryz.call227 (Fs ho hne) (by simp) Ff ((zj L i o _ (Ag (Fs ho hne)) hi hll).ok h1) ?_
 rw [Gt hne]
 refine Pn ?_;refine Z0 ?_
 refine Io jS (H1 hm) ?_ ?_
 ·simp [or_imp,forall_and]
 refine A2 [0,1] ?_;refine S8 (U2_setm (y:=.cells 48 [A5 m.kind,.slice true 1 ([Ae s]),.slice true 2 (m.give.map Bq),.slice true 6 (m.ahead.map A9),.slice true 6 (m.back.map A9)])) ?_
 rcases h2:Dp L toW j with ⟨u,j2⟩|⟨e,a⟩
 rotate_left
 ·exact (Do hX (by first|exact by unfold Lv;rw [h1];show (Dp L toW j).bind _=_;rw [h2];rfl|exact h2)).elim
 have hj2:=Hz hl hj.2 _ _ h2
 refine Z2 ?_;refine C2 (x:=pmO L j2) Tryz.call181 (Fs ho hne) (by simp) Ff ((rx L toW j o _ (Ag (Fs ho hne)) hj.2 hll).ok h2) ?_
 rw [Gt hne]
 refine A2 [0,1] ?_
 rcases h3:Ix L j2 with ⟨t,k⟩|⟨e,a⟩
 rotate_left
 ·exact (Do hX (by first|exact by unfold Lv;rw [h1];show (Dp L toW j).bind _=_;rw [h2];show (Ix L j2).bind _=_;rw [h3];rfl|exact h3)).elim
 refine Z2 ?_;refine C2 (x:=pmO L k) Tryz.call227 (Fs ho hne) (by simp) Ff ((zj L j2 o _ (Ag (Fs ho hne)) hj2.2 hll).ok h3) ?_
 rw [Gt hne]
 refine A4 ?_;refine A2 [1,4] ?_;refine Z1 ?_;refine gk ?_;refine Pn ?_;refine Z0 ?_
 refine Io jS (H1 hm) ?_ ?_
 ·simp [or_imp,forall_and]
 refine A2 [1,4] ?_;refine S8 (U2_setm (y:=.cells 48 [A5 m.kind,.slice true 1 ([Ae s]),.slice true 2 ([Bq ⟨t,0⟩]),.slice true 6 (m.ahead.map A9),.slice true 6 (m.back.map A9)])) ?_;refine Z12 ?_;refine Z22 ?_
 refine A4 (h:=Ca (H1 hm)) (hr:=?_)
 refine A4 (h:=Ac (0) (Ae s) (fun _=>rfl)) (hr:=?_)
 refine A4 ?_;refine Aa Tryz.call240 (AH1 s _) ?_;refine Pn ?_;refine A4 ?_;refine Aa Tryz.call240 (AH1 t _) ?_;refine Pn ?_;refine Z0 ?_
 refine Io jS (H1 hm) ?_ ?_
 ·first|exact vf|exact mx
 rw [U2_setm]
 refine Z0 ?_
 refine Io jS (H1 hm) ?_ ?_
 ·first|exact vf|exact mx
 rw [U2_setm]
 refine A2 [] ?_;exact Fv .nores (hp:=⟨⟨m.kind,[s],[⟨t,0⟩],[Cw s],[Cw t]⟩,k,by unfold Lv;rw [h1];show (Dp L toW j).bind _=_;rw [h2];show (Ix L j2).bind _=_;rw [h3];rfl,rfl,by simp only [mvO,mvC,Bz,Ek,At]⟩)

theorem zt {L:List Tok} {Hp:List AObj} {o om i:Nat} {m:Mov} {c:Col} {x:AObj}:(U2 L Hp o om i x).set om (.cells 48 [A5 m.kind,.slice true 1 [Ae c.name],.slice true 2 (m.give.map Bq),.slice true 6 (m.ahead.map A9),.slice true 6 (m.back.map A9)])=U2 L Hp o om i (mvO (takeS m c.name)):=U2_setm
theorem ARs (L:List Tok) (m:Mov) (i o om:Nat) (Hp:List AObj) (hne:om≠o) (ho:Hp[o]? = some (pmO L i)) (hm:Hp[om]? = some (mvO m)) (hi:i<L.length) (hl:TokEnd L) (hll:L.length≤500000) (hb:MvLe m (2*i-1)) (h0:0<i):CP 180 [.ptr o 0,.ptr om 0] Hp (Jx L m i) (fun m' j r H'=>r=Ra∧H'=U2 L Hp o om j (mvO m')) (W2 L o om Hp):=by
 refine ⟨fun hX=>?_⟩
 have hol:=(Ad.1 ho).1
 have hml:=(Ad.1 hm).1
 refine Af [] [0,1] Tryz.func180 Tryz.ntmps180 (fun d=>?_)
 refine wx ?_;refine R.box ?_;refine Lo ?_;refine ABs ?_;refine Z17 ?_
 refine A4 (h:=Ca (H1 hm)) (hr:=?_)
 refine A2 [2,3,7] ?_;refine Pj ?_;refine A2 [2,3,7,8] ?_
 refine A3 (fun ht8=>?_) (fun ht8=>?_)
 ·rcases h1:Gl L m i with ⟨m1,k⟩|⟨e,a⟩
  rotate_left
  ·exact (Do hX (by first|exact by rw [AEe ht8];rw [h1]|exact h1)).elim
  refine Z12 ?_
  refine Kb (up':=U2 L Hp o om k (mvO m1)) (own':=[.cells 142 [.ptr o 0],.cells 227 [.ptr om 0]]) Tryz.call226 (((AHp L m i o om (U2 L Hp o om i (mvO m)++[.cells 142 [.ptr o 0],.cells 227 [.ptr om 0]]) hne (Ag (Fs ho hne)) (Ag (H1 hm)) hi hl hll hb).ok h1).mono (fun r H' e=>⟨e.1,e.2.trans (by first|rw [Gc (by rw [U2_len];exact hol) (by rw [U2_len];exact hml),Li hne]|rw [Gc hol hml])⟩)) (by first|rfl|rw [U2_len,U2_len]|rw [U2_len]) (fun h=>Jz hne I0 h) ?_
  refine Z78 ?_;exact Fv .nores (hp:=⟨m1,k,by rw [AEe ht8];rw [h1],rfl,rfl⟩)
 refine Z1 ?_;refine A2 [2,3,7,13] ?_
 refine A3 (fun ht13=>?_) (fun ht13=>?_)
 ·rcases h1:Ix L i with ⟨s,j⟩|⟨e,a⟩
  rotate_left
  ·exact (Do hX (by first|exact by rw [ry ht8 ht13];rw [h1];rfl|exact h1)).elim
  have hj:=Jy hl hi _ _ h1
  refine Ip [0,0,2,6,15,31,63] [2] [.q 2 [] [],.s [17] (some 0) [] [],.s [18] none [0] []] (fun B=>U2 L Hp o om (if B 0=true then j else i) (mvO m)) (fun _=>[.cells 142 [.ptr o 0],.cells 227 [.ptr om 0]]) An (by kernel_rfl) rfl rfl (fun B=>by rw [U2_len];exact U2_len.symm) ?_
  apply Y.q
  ·intro B hT hF
   exact oa
  case hTF=>decide
  refine O9 (r:=Ae s) (o:=o) (x0:=pmO L i) (x:=pmO L j) Tryz.call227 (fun B hB1 hB2 hB=>⟨by simp only [hB];exact Fs ho hne,(Gt hne).symm,rfl,Ff,?_⟩) ?_
  ·simp only [hB]
   exact (zj L i o _ (Ag (Fs ho hne)) hi hll).ok h1
  refine ALt ?_;refine Z0 ?_
  refine Io jS (H1 hm) ?_ ?_
  ·simp [or_imp,forall_and]
  refine Lo ?_;refine S8 (dq (m:=m) (s:=s)) ?_
  rcases h2:Hj L (takeS m s) j with ⟨m2,k⟩|⟨e,a⟩
  rotate_left
  ·exact (Do hX (by first|exact by rw [ry ht8 ht13];rw [h1];show Hj L (takeS m s) j=_;rw [h2]|exact h2)).elim
  refine Z12 ?_
  refine Kb (up':=U2 L Hp o om k (mvO m2)) (own':=[.cells 142 [.ptr o 0],.cells 227 [.ptr om 0]]) Tryz.call228 (((AHq L (takeS m s) j o om (U2 L Hp o om j (mvO (takeS m s))++[.cells 142 [.ptr o 0],.cells 227 [.ptr om 0]]) hne (Ag (Fs ho hne)) (Ag (H1 hm)) hj.2 hl hll ((hb.mono (by omega:2*i-1≤2*j)).takeS (by omega))).ok h2).mono (fun r H' e=>⟨e.1,e.2.trans (by first|rw [Gc (by rw [U2_len];exact hol) (by rw [U2_len];exact hml),Li hne]|rw [Gc hol hml])⟩)) (by first|rfl|rw [U2_len,U2_len]|rw [U2_len]) (fun h=>Jz hne I0 h) ?_
  refine Z78 ?_;exact Fv .nores (hp:=⟨m2,k,by rw [ry ht8 ht13];rw [h1];show Hj L (takeS m s) j=_;rw [h2],rfl,rfl⟩)
 refine Z1 ?_;refine A2 [2,3,7,24] ?_
 refine A3 (fun ht24=>?_) (fun ht24=>?_)
 ·rcases h1:Lv L m i with ⟨m1,k⟩|⟨e,a⟩
  rotate_left
  ·exact (Do hX (by first|exact by rw [AEf ht8 ht13 ht24];rw [h1]|exact h1)).elim
  refine Z12 ?_
  refine Kb (up':=U2 L Hp o om k (mvO m1)) (own':=[.cells 142 [.ptr o 0],.cells 227 [.ptr om 0]]) Tryz.call229 (((ARr L m i o om (U2 L Hp o om i (mvO m)++[.cells 142 [.ptr o 0],.cells 227 [.ptr om 0]]) hne (Ag (Fs ho hne)) (Ag (H1 hm)) hi hl hll hb).ok h1).mono (fun r H' e=>⟨e.1,e.2.trans (by first|rw [Gc (by rw [U2_len];exact hol) (by rw [U2_len];exact hml),Li hne]|rw [Gc hol hml])⟩)) (by first|rfl|rw [U2_len,U2_len]|rw [U2_len]) (fun h=>Jz hne I0 h) ?_
  refine Z78 ?_;exact Fv .nores (hp:=⟨m1,k,by rw [AEf ht8 ht13 ht24];rw [h1],rfl,rfl⟩)
 refine Z1 ?_;refine A2 [2,3,7,29] ?_
 refine A3 (fun ht29=>?_) (fun ht29=>?_)
 ·rcases h1:Ix L i with ⟨s,j⟩|⟨e,a⟩
  rotate_left
  ·exact (Do hX (by first|exact by rw [Zs ht8 ht13 ht24 ht29];rw [h1];rfl|exact h1)).elim
  have hj:=Jy hl hi _ _ h1
  refine Ip [0,0,2,6,15,31,63] [2] [.q 2 [] [],.s [33] (some 0) [] [],.s [34] none [0] []] (fun B=>U2 L Hp o om (if B 0=true then j else i) (mvO m)) (fun _=>[.cells 142 [.ptr o 0],.cells 227 [.ptr om 0]]) An (by kernel_rfl) rfl rfl (fun B=>by rw [U2_len];exact U2_len.symm) ?_
  apply Y.q
  ·intro B hT hF
   exact oa
  case hTF=>decide
  refine O9 (r:=Ae s) (o:=o) (x0:=pmO L i) (x:=pmO L j) Tryz.call227 (fun B hB1 hB2 hB=>⟨by simp only [hB];exact Fs ho hne,(Gt hne).symm,rfl,Ff,?_⟩) ?_
  ·simp only [hB]
   exact (zj L i o _ (Ag (Fs ho hne)) hi hll).ok h1
  refine ALt ?_;refine Z0 ?_
  refine Io jS (H1 hm) ?_ ?_
  ·simp [or_imp,forall_and]
  refine Lo ?_;refine S8 (dq (m:=m) (s:=s)) ?_
  rcases h2:Dp L Lh j with ⟨u,j2⟩|⟨e,a⟩
  rotate_left
  ·exact (Do hX (by first|exact by rw [Zs ht8 ht13 ht24 ht29];rw [h1];show (Dp L Lh j).bind _=_;rw [h2];rfl|exact h2)).elim
  have hj2:=Hz hl hj.2 _ _ h2
  refine Z2 ?_;refine C2 (x:=pmO L j2) Tryz.call181 (Fs ho hne) (by simp) Ff ((rx L Lh j o _ (Ag (Fs ho hne)) hj.2 hll).ok h2) ?_
  rw [Gt hne]
  refine Lo ?_
  rcases h3:Jw L 0 (Gl L) (takeS m s) j2 with ⟨m1,j3⟩|⟨e,a⟩
  rotate_left
  ·exact (Do hX (by first|exact by rw [Zs ht8 ht13 ht24 ht29];rw [h1];show (Dp L Lh j).bind _=_;rw [h2];show (Jw L 0 (Gl L) (takeS m s) j2).bind _=_;rw [h3];rfl|exact h3)).elim
  have hj3:=Tj hl (N4 hl hll) (takeS m s) j2 ((hb.mono (by omega:2*i-1≤2*j2-1)).takeS (by omega)) (by omega) hj2.2 _ _ h3
  refine Z2 ?_;refine Ka ?_
  refine Kb (up':=U2 L Hp o om j3 (mvO m1)) (own':=[.cells 142 [.ptr o 0],.cells 227 [.ptr om 0]]) Tryz.call230 (((AKm L (0) (takeS m s) j2 o om 231 [.ptr (oid Hp.length 0) 0,.ptr (oid Hp.length 1) 0] (Gl L) (U2 L Hp o om j2 (mvO (takeS m s))++[.cells 142 [.ptr o 0],.cells 227 [.ptr om 0]]) hne (Ag (Fs ho hne)) (Ag (H1 hm)) (by omega) hj2.2 hl hll ((hb.mono (by omega:2*i-1≤2*j2-1)).takeS (by omega)) Tryz.call231 (zq (z:=pmO L j2) (z':=mvO (takeS m s)) hne (Ag (Fs ho hne)) (Ag (H1 hm)) (zr rfl) (zr rfl) (Lf hol) (Lf hml) (Lf hol) (Lf hml) hl hll) (N4 hl hll)).ok h3).mono (fun r H' e=>⟨e.1,e.2.trans (by first|rw [Gc (by rw [U2_len];exact hol) (by rw [U2_len];exact hml),Li hne]|rw [Gc hol hml])⟩)) (by first|rfl|rw [U2_len,U2_len]|rw [U2_len]) (fun h=>Jz hne I0 h) ?_
  refine Lo ?_
  rcases h4:Hj L m1 j3 with ⟨m2,k⟩|⟨e,a⟩
  rotate_left
  ·exact (Do hX (by first|exact by rw [Zs ht8 ht13 ht24 ht29];rw [h1];show (Dp L Lh j).bind _=_;rw [h2];show (Jw L 0 (Gl L) (takeS m s) j2).bind _=_;rw [h3];show Hj L m1 j3=_;rw [h4]|exact h4)).elim
  refine Z12 ?_
  refine Kb (up':=U2 L Hp o om k (mvO m2)) (own':=[.cells 142 [.ptr o 0],.cells 227 [.ptr om 0]]) Tryz.call228 (((AHq L m1 j3 o om (U2 L Hp o om j3 (mvO m1)++[.cells 142 [.ptr o 0],.cells 227 [.ptr om 0]]) hne (Ag (Fs ho hne)) (Ag (H1 hm)) hj3.2.1 hl hll hj3.2.2).ok h4).mono (fun r H' e=>⟨e.1,e.2.trans (by first|rw [Gc (by rw [U2_len];exact hol) (by rw [U2_len];exact hml),Li hne]|rw [Gc hol hml])⟩)) (by first|rfl|rw [U2_len,U2_len]|rw [U2_len]) (fun h=>Jz hne I0 h) ?_
  refine Z78 ?_;exact Fv .nores (hp:=⟨m2,k,by rw [Zs ht8 ht13 ht24 ht29];rw [h1];show (Dp L Lh j).bind _=_;rw [h2];show (Jw L 0 (Gl L) (takeS m s) j2).bind _=_;rw [h3];show Hj L m1 j3=_;rw [h4],rfl,rfl⟩)
 refine Z1 ?_;refine A2 [2,3,7,45] ?_
 refine A3 (fun ht45=>?_) (fun ht45=>?_)
 ·rcases h1:Jw L 0 (Th L) m i with ⟨m1,j⟩|⟨e,a⟩
  rotate_left
  ·exact (Do hX (by first|exact by rw [Zt ht8 ht13 ht24 ht29 ht45];rw [h1];rfl|exact h1)).elim
  have hj:=Tj hl (Zq hl) m i hb h0 hi _ _ h1
  refine Z2 ?_;refine Ka ?_
  refine Kb (up':=U2 L Hp o om j (mvO m1)) (own':=[.cells 142 [.ptr o 0],.cells 227 [.ptr om 0]]) Tryz.call230 (((AKm L (0) m i o om 232 [.ptr (oid Hp.length 1) 0,.ptr (oid Hp.length 0) 0] (Th L) (U2 L Hp o om i (mvO m)++[.cells 142 [.ptr o 0],.cells 227 [.ptr om 0]]) hne (Ag (Fs ho hne)) (Ag (H1 hm)) h0 hi hl hll hb Tryz.call232 (zp (z:=pmO L i) (z':=mvO m) hne (Ag (Fs ho hne)) (Ag (H1 hm)) (zr rfl) (zr rfl) (Lf hol) (Lf hml) (Lf hol) (Lf hml) hl hll) (Zq hl)).ok h1).mono (fun r H' e=>⟨e.1,e.2.trans (by first|rw [Gc (by rw [U2_len];exact hol) (by rw [U2_len];exact hml),Li hne]|rw [Gc hol hml])⟩)) (by first|rfl|rw [U2_len,U2_len]|rw [U2_len]) (fun h=>Jz hne I0 h) ?_
  refine Lo ?_
  rcases h2:Dp L Lh j with ⟨u,j2⟩|⟨e,a⟩
  rotate_left
  ·exact (Do hX (by first|exact by rw [Zt ht8 ht13 ht24 ht29 ht45];rw [h1];show (Dp L Lh j).bind _=_;rw [h2];rfl|exact h2)).elim
  have hj2:=Hz hl hj.2.1 _ _ h2
  have hj2e:=Om h2
  refine Z2 ?_;refine C2 (x:=pmO L j2) Tryz.call181 (Fs ho hne) (by simp) Ff ((rx L Lh j o _ (Ag (Fs ho hne)) hj.2.1 hll).ok h2) ?_
  rw [Gt hne]
  refine Lo ?_
  rcases h3:Gl L m1 j2 with ⟨m2,j3⟩|⟨e,a⟩
  rotate_left
  ·exact (Do hX (by first|exact by rw [Zt ht8 ht13 ht24 ht29 ht45];rw [h1];show (Dp L Lh j).bind _=_;rw [h2];show (Gl L m1 j2).bind _=_;rw [h3];rfl|exact h3)).elim
  have hj3:=N4 hl hll m1 j2 (hj.2.2.mono (by omega)) (by omega) hj2.2 _ _ h3
  refine Z1 ?_
  refine Kb (up':=U2 L Hp o om j3 (mvO m2)) (own':=[.cells 142 [.ptr o 0],.cells 227 [.ptr om 0]]) Tryz.call226 (((AHp L m1 j2 o om (U2 L Hp o om j2 (mvO m1)++[.cells 142 [.ptr o 0],.cells 227 [.ptr om 0]]) hne (Ag (Fs ho hne)) (Ag (H1 hm)) hj2.2 hl hll (hj.2.2.mono (by omega))).ok h3).mono (fun r H' e=>⟨e.1,e.2.trans (by first|rw [Gc (by rw [U2_len];exact hol) (by rw [U2_len];exact hml),Li hne]|rw [Gc hol hml])⟩)) (by first|rfl|rw [U2_len,U2_len]|rw [U2_len]) (fun h=>Jz hne I0 h) ?_
  refine Lo ?_
  rcases h4:Hj L m2 j3 with ⟨m3,k⟩|⟨e,a⟩
  rotate_left
  ·exact (Do hX (by first|exact by rw [Zt ht8 ht13 ht24 ht29 ht45];rw [h1];show (Dp L Lh j).bind _=_;rw [h2];show (Gl L m1 j2).bind _=_;rw [h3];show Hj L m2 j3=_;rw [h4]|exact h4)).elim
  refine Z12 ?_
  refine Kb (up':=U2 L Hp o om k (mvO m3)) (own':=[.cells 142 [.ptr o 0],.cells 227 [.ptr om 0]]) Tryz.call228 (((AHq L m2 j3 o om (U2 L Hp o om j3 (mvO m2)++[.cells 142 [.ptr o 0],.cells 227 [.ptr om 0]]) hne (Ag (Fs ho hne)) (Ag (H1 hm)) hj3.2.1 hl hll hj3.2.2).ok h4).mono (fun r H' e=>⟨e.1,e.2.trans (by first|rw [Gc (by rw [U2_len];exact hol) (by rw [U2_len];exact hml),Li hne]|rw [Gc hol hml])⟩)) (by first|rfl|rw [U2_len,U2_len]|rw [U2_len]) (fun h=>Jz hne I0 h) ?_
  refine Z78 ?_;exact Fv .nores (hp:=⟨m3,k,by rw [Zt ht8 ht13 ht24 ht29 ht45];rw [h1];show (Dp L Lh j).bind _=_;rw [h2];show (Gl L m1 j2).bind _=_;rw [h3];show Hj L m2 j3=_;rw [h4],rfl,rfl⟩)
 refine Z1 ?_;refine A2 [2,3,58] ?_
 refine A3 (fun ht58=>?_) (fun ht58=>?_)
 ·rcases h1:Gl L m i with ⟨m1,j⟩|⟨e,a⟩
  rotate_left
  ·exact (Do hX (by first|exact by rw [rz ht8 ht13 ht24 ht29 ht45 ht58];rw [h1];rfl|exact h1)).elim
  have hj:=N4 hl hll m i hb h0 hi _ _ h1
  refine Z1 ?_
  refine Kb (up':=U2 L Hp o om j (mvO m1)) (own':=[.cells 142 [.ptr o 0],.cells 227 [.ptr om 0]]) Tryz.call226 (((AHp L m i o om (U2 L Hp o om i (mvO m)++[.cells 142 [.ptr o 0],.cells 227 [.ptr om 0]]) hne (Ag (Fs ho hne)) (Ag (H1 hm)) hi hl hll hb).ok h1).mono (fun r H' e=>⟨e.1,e.2.trans (by first|rw [Gc (by rw [U2_len];exact hol) (by rw [U2_len];exact hml),Li hne]|rw [Gc hol hml])⟩)) (by first|rfl|rw [U2_len,U2_len]|rw [U2_len]) (fun h=>Jz hne I0 h) ?_
  refine Lo ?_;refine Ip [0,0,2,6,14,30,62,126,254,511,1023,2047] [] [.q 8 [] [],.s [71] none [] []] (fun _=>U2 L Hp o om j (mvO m1)) (fun _=>[.cells 142 [.ptr o 0],.cells 227 [.ptr om 0]]) An (by kernel_rfl) rfl rfl (fun B=>rfl) ?_
  apply Y.q
  ·intro B hT hF
   refine Z84 ?_
   refine Al (h:=Ca (H1 hm)) (hr:=?_)
   refine Al (h:=Ac (0) (Bq (m1.give.getD 0 ⟨[],0⟩)) (fun _=>AEd h1)) (hr:=?_)
   exact oa
  case hTF=>decide
  refine Y.buildSlice jU Tryz.sizeOf9 Tryz.zeroValue9 ?_;refine Ha (tn:=[]) (U:=U2 L Hp o om j (mvO m1)) ?_;refine Z0 ?_
  refine Io jS (H1 hm) ?_ ?_
  ·simp [or_imp,forall_and]
  refine Lo ?_;refine S8 (zt (m:=m1) (c:=m1.give.getD 0 ⟨[],0⟩)) ?_
  rcases h2:Hj L (takeS m1 (m1.give.getD 0 ⟨[],0⟩).name) j with ⟨m2,k⟩|⟨e,a⟩
  rotate_left
  ·exact (Do hX (by first|exact by rw [rz ht8 ht13 ht24 ht29 ht45 ht58];rw [h1];show Hj L (takeS m1 (m1.give.getD 0 ⟨[],0⟩).name) j=_;rw [h2]|exact h2)).elim
  refine Z12 ?_
  refine Kb (up':=U2 L Hp o om k (mvO m2)) (own':=[.cells 142 [.ptr o 0],.cells 227 [.ptr om 0]]) Tryz.call228 (((AHq L (takeS m1 (m1.give.getD 0 ⟨[],0⟩).name) j o om (U2 L Hp o om j (mvO (takeS m1 (m1.give.getD 0 ⟨[],0⟩).name))++[.cells 142 [.ptr o 0],.cells 227 [.ptr om 0]]) hne (Ag (Fs ho hne)) (Ag (H1 hm)) hj.2.1 hl hll (hj.2.2.takeS (by omega))).ok h2).mono (fun r H' e=>⟨e.1,e.2.trans (by first|rw [Gc (by rw [U2_len];exact hol) (by rw [U2_len];exact hml),Li hne]|rw [Gc hol hml])⟩)) (by first|rfl|rw [U2_len,U2_len]|rw [U2_len]) (fun h=>Jz hne I0 h) ?_
  refine Z78 ?_;exact Fv .nores (hp:=⟨m2,k,by rw [rz ht8 ht13 ht24 ht29 ht45 ht58];rw [h1];show Hj L (takeS m1 (m1.give.getD 0 ⟨[],0⟩).name) j=_;rw [h2],rfl,rfl⟩)
 refine ww ?_;exact Fv .nores (hp:=⟨m,i,AKn ht8 ht13 ht24 ht29 ht45 ht58,rfl,rfl⟩)

def AOt:Str:=[32,97,100,100,32,100,114,111,112,32,114,101,110,97,109,101,32,115,112,108,105,116,32,109,101,114,103,101,32,114,101,116,121,112,101]
theorem zu:Po AOt [32]=migWords:=by kernel_rfl
theorem ARt (k:Int) (Hp:List AObj):AFun Tryz.prog 225 [A5 k] Hp (Ae (Fl k)):=by
 refine Af [.tmp 2] [0] Tryz.func225 Tryz.ntmps225 (fun d=>?_)
 refine k9 ?_;refine Qw ?_;refine A2 [0,8] ?_
 refine A3 (fun ht8=>?_) (fun ht8=>?_)
 ·have hm:Fl k=[]:=if_pos ht8
  exact ABb
 have hm:Fl k=migWords.getD k.toNat []:=if_neg (by rw [ht8];simp)
 refine x5 ?_;refine Aa Tryz.call122 (AJa AOt [32] (by decide) (by decide) _) ?_
 rw [zu]
 refine A4 ?_
 have hk:1≤k∧k≤6:=by simp at ht8;omega
 have hget:(migWords.map Ae)[k.toNat]? = some (Ae (migWords.getD k.toNat [])):=by
  have hlt:k.toNat<migWords.length:=by show k.toNat<7;omega
  rw [Cf,Ab hlt,C9,Ab hlt]
  rfl
 refine A4 (h:=Ac (k.toNat) (Ae (migWords.getD k.toNat [])) (fun _=>hget)) (hr:=?_)
 exact AM5

theorem zv {s:Str} {x:Nat} (h:∀j:Nat,j<x→(Fl ((j:Int)+1)==s)=false) (hx:x<6) (he:(Fl ((x:Int)+1)==s)=true):J1 s=(x:Int)+1:=by
 have a:∀j:Nat,j<x→∀k:Int,k=(j:Int)+1→(Fl k==s)=false:=fun j hj k e=>by rw [e];exact h j hj
 have b:∀k:Int,k=(x:Int)+1→(Fl k==s)=true:=fun k e=>by rw [e];exact he
 have h6:x=0∨x=1∨x=2∨x=3∨x=4∨x=5:=by omega
 unfold J1
 rcases h6 with rfl|rfl|rfl|rfl|rfl|rfl
 ·rw [if_pos (b 1 rfl)];rfl
 ·rw [if_neg (by rw [a 0 (by omega) 1 rfl];simp),if_pos (b 2 rfl)];rfl
 ·rw [if_neg (by rw [a 0 (by omega) 1 rfl];simp),if_neg (by rw [a 1 (by omega) 2 rfl];simp),if_pos (b 3 rfl)];rfl
 ·rw [if_neg (by rw [a 0 (by omega) 1 rfl];simp),if_neg (by rw [a 1 (by omega) 2 rfl];simp),if_neg (by rw [a 2 (by omega) 3 rfl];simp),if_pos (b 4 rfl)];rfl
 ·rw [if_neg (by rw [a 0 (by omega) 1 rfl];simp),if_neg (by rw [a 1 (by omega) 2 rfl];simp),if_neg (by rw [a 2 (by omega) 3 rfl];simp),if_neg (by rw [a 3 (by omega) 4 rfl];simp),if_pos (b 5 rfl)];rfl
 rw [if_neg (by rw [a 0 (by omega) 1 rfl];simp),if_neg (by rw [a 1 (by omega) 2 rfl];simp),if_neg (by rw [a 2 (by omega) 3 rfl];simp),if_neg (by rw [a 3 (by omega) 4 rfl];simp),if_neg (by rw [a 4 (by omega) 5 rfl];simp),if_pos (b 6 rfl)];rfl
theorem my {s:Str} {x:Nat} (h:∀j:Nat,j<x→(Fl ((j:Int)+1)==s)=false) (he:(Fl ((x:Int)+1)==s)=false):∀j:Nat,j<x+1→(Fl ((j:Int)+1)==s)=false:=fun j hj=>by
 rcases Bv j x with h1|h1
 ·exact h j h1
 rw [show j=x by omega];exact he
theorem zw {s:Str} {x:Nat} (h:∀j:Nat,j<x→(Fl ((j:Int)+1)==s)=false) (hx:6≤x):J1 s=0:=by
 have a:∀j:Nat,j<6→∀k:Int,k=(j:Int)+1→(Fl k==s)=false:=fun j hj k e=>by rw [e];exact h j (by omega)
 unfold J1
 rw [if_neg (by rw [a 0 (by omega) 1 rfl];simp),if_neg (by rw [a 1 (by omega) 2 rfl];simp),if_neg (by rw [a 2 (by omega) 3 rfl];simp),if_neg (by rw [a 3 (by omega) 4 rfl];simp),if_neg (by rw [a 4 (by omega) 5 rfl];simp),if_neg (by rw [a 5 (by omega) 6 rfl];simp)]
theorem ARu (s:Str) (Hp:List AObj):AFun Tryz.prog 179 [Ae s] Hp (A5 (J1 s)):=by
 refine Af [.tmp 2] [0] Tryz.func179 Tryz.ntmps179 (fun d=>?_)
 refine k8 ?_;refine Ln ?_
 refine B7 (α:=Nat) (fun x=>⟨13,A7 0 (Ae s) (A7 3 (A5 ((x:Nat)+1)) (fun _=>.any)),Hp,[],[],none⟩) (fun x=>∀j:Nat,j<x→(Fl ((j:Int)+1)==s)=false) (fun x=>6-x) (0) (fun j h=>by omega) (G8 _) rfl (fun x hx=>?_)
 refine Z8 ?_;refine A2 [0,3,5] ?_
 refine A3 (fun ht5=>?_) (fun ht5=>?_)
 ·have hx6:x<6:=by simp at ht5;omega
  refine Z50 ?_;refine Z2 ?_;refine Aa Tryz.call225 (ARt _ _) ?_;refine Z0 ?_;refine A2 [0,3,11] ?_
  refine A3 (fun ht11=>?_) (fun ht11=>?_)
  ·refine gj ?_;refine Z45 ?_;exact A8 (Ah A6) ⟨by rw [zv hx hx6 ht11],rfl⟩
  refine wq ?_
  refine Bb (x+1) (my hx ht11) (by omega) (Cg rfl)
 have hx6:6≤x:=by simp at ht5;omega
 refine ol ?_;exact A8 (Ah A6) ⟨by rw [zw hx hx6],rfl⟩

theorem AKo {L:List Tok} {Hp own:List AObj} {o i n:Nat} {x:AObj} (h1:o<Hp.length):U2 L (Hp++own) o (oid Hp.length n) i x=Hp.set o (pmO L i)++own.set n x:=by
 unfold U2 oid
 rw [Lj _ _ h1,Wh,if_neg (by simp),E6,O0]
theorem AEg {L:List Tok} {Hp:List AObj} {o i j n:Nat} (h:∀z∈Hp.set o (pmO L i),ObjLow n z):∀z∈Hp.set o (pmO L j),ObjLow n z:=by
 intro z hz
 rw [show Hp.set o (pmO L j)=(Hp.set o (pmO L i)).set o (pmO L j) by rw [Dy]] at hz
 rcases Mr hz with hz|rfl
 ·exact h z hz
 exact Ff
theorem ARv (L:List Tok) (i o:Nat) (Hp:List AObj) (ho:Hp[o]? = some (pmO L i)) (hi:i<L.length) (hl:TokEnd L) (hll:L.length≤500000):CP 141 [.ptr o 0] Hp (Q6 L i) (fun m j r H'=>r=Gw m∧H'=Hp.set o (pmO L j)) (W1 L o Hp):=by
 refine ⟨fun hX=>?_⟩
 have hol:=(Ad.1 ho).1
 have hne:oid Hp.length 2≠o:=by unfold oid;omega
 refine Af [.cell 2 48] [0] Tryz.func141 Tryz.ntmps141 (fun d=>?_)
 refine Z76 ?_;refine AJ1 ?_;refine ju ?_;refine Z1 ?_;refine Aa Tryz.call179 (ARu (Ao L i).text _) ?_;refine U0 (places:=#[(0,1),(1,1),(2,1),(3,1),(4,1)]) jU (fun w=>by simp) jZ ?_;refine Z19 ?_;refine A2 [0,2,3,4] ?_;refine Z67 ?_;refine N9 2 1 1 ?_;refine N9 2 2 2 ?_;refine N9 2 3 6 ?_;refine N9 2 4 6 ?_;refine Z89 ?_;refine Sr ?_;refine A2 [0,2,4,18] ?_
 refine A3 (fun ht18=>?_) (fun ht18=>?_)
 ·have e:Q6 L i=.bad 8 (Ao L i).at_:=if_pos ht18
  exact ABr
 have e0:Q6 L i=(Jx L (⟨J1 (Ao L i).text,[],[],[],[]⟩:Mov) (i+1)).bind fun m j=>(Dp L [59] j).bind fun _ j=>.ok m j:=if_neg (by rw [ht18];simp)
 have hi1:i+1<L.length:=hl.step hi (by simp only [Ej,bne_eq_false_iff_eq] at ht18;rw [ht18.1];decide)
 refine Z82 ?_
 refine A4 (h:=Ca ho) (hr:=?_)
 refine Z22 ?_
 refine Fu jS ho ?_ ?_
 ·simp
 refine A2 [0,2,4] ?_
 rcases hR:Jx L (⟨J1 (Ao L i).text,[],[],[],[]⟩:Mov) (i+1) with ⟨m1,k⟩|⟨e,a⟩
 rotate_left
 ·exact (Do hX (by first|exact by rw [e0];rw [hR];rfl|exact hR)).elim
 have hk:=vd hl hll (⟨J1 (Ao L i).text,[],[],[],[]⟩:Mov) (i+1) ⟨Ar _,Ar _,Ar _,Ar _⟩ (by omega) hi1 _ _ hR
 refine Z2 ?_
 refine Kb (up':=Hp.set o (pmO L k)) (own':=[.cells 48 [A5 0,.nil,.nil,.nil,.nil],.cells 113 [.v (.int .i64 (Ao L i).kind),.v (sv (Ao L i).text),.v (.int .i64 ((Ao L i).at_:Int))],mvO m1]) Tryz.call180 (((ARs L (⟨J1 (Ao L i).text,[],[],[],[]⟩:Mov) (i+1) o (oid Hp.length 2) (Hp.set o (pmO L (i+1))++[.cells 48 [A5 0,.nil,.nil,.nil,.nil],.cells 113 [.v (.int .i64 (Ao L i).kind),.v (sv (Ao L i).text),.v (.int .i64 ((Ao L i).at_:Int))],mvO (⟨J1 (Ao L i).text,[],[],[],[]⟩:Mov)]) hne (by rw [Di (by simpa using hol)];exact getset ho) (by unfold oid;rw [Dd (by simp)];simp) hi1 hl hll ⟨Ar _,Ar _,Ar _,Ar _⟩ (by omega)).ok hR).mono (fun r H' e=>⟨e.1,e.2.trans (by rw [show oid Hp.length 2=oid (Hp.set o (pmO L (i+1))).length 2 by simp];rw [AKo (by simpa using hol),Dy];rfl)⟩)) (by simp) (fun h=>by simpa using AEg h) ?_
 refine A2 [0,2,4] ?_
 rcases hW:Dp L [59] k with ⟨u,j2⟩|⟨e,a⟩
 rotate_left
 ·exact (Do hX (by first|exact by rw [e0];rw [hR];show (Dp L [59] k).bind _=_;rw [hW];rfl|exact hW)).elim
 refine Z2 ?_;refine C2 (x:=pmO L j2) Tryz.call181 (getset ho) (by simp) Ff ((rx L [59] k o _ (Ag (getset ho)) hk.2.1 hll).ok hW) ?_
 rw [Dy]
 refine A2 [2,4] ?_;refine Z2 ?_;refine Z15 ?_;exact A8 (Ah (Bu jA jS)) (hp:=⟨m1,j2,by rw [e0];rw [hR];show (Dp L [59] k).bind _=_;rw [hW];rfl,rfl,rfl⟩) (hlow:=lw)

/-- What mig.parser.moves comes to: the moves, or none and the fault. -/
def Sa (L:List Tok):List Mov×Int×Int:=match Ld L with
 | .ok l _=>(l,0,0)
 | .bad e a=>([],e,a)
abbrev j5 (L:List Tok):AV:=.tup [Ew (Sa L).1,.agg [A5 (Sa L).2.1,A5 (Sa L).2.2]]
theorem AHr {fc:Func} {r0 crest:Code} (hf:Tryz.prog.funcs[138]? = some fc) (hb:fc.body=some (.seq r0 crest)) (d a b:Nat) (H:List AObj):AW Tryz.prog (d+1) crest ⟨8,A7 2 (.v .nilIface) (A7 3 (.v .nilIface) (Go.SX.argsF [.ptr a 0,.ptr b 0])),H,[],[],none⟩ (fun e s2=>(e=.normal∨e=.ret)∧s2.defs=[]∧s2.up=H):=by
 have e:=Tryz.func138.symm.trans hf
 injection e with e
 subst e
 injection hb with hb
 injection hb with h1 h2
 subst h2
 refine bg [0,1,2] (by simp only [go_sem,↓reduceIte,Nat.reduceEqDiff,Nat.reduceAdd]<;>rfl) ?_
 refine Z2 ?_;refine R.neqNil0 jU ?_;refine A2 [0,1,2,5] ?_
 refine A3 (fun ht5=>?_) (fun ht5=>?_)
 ·cases ht5
 refine Rf ?_;exact ⟨.inl rfl,rfl,rfl⟩

/-- Where the loop of moves stands. -/
structure MovAt (L:List Tok) (x:List Mov×Nat):Prop where
 lt:x.2<L.length
 le:x.1.length≤8
 at_:Ld L=Ol L (9-x.1.length) x.1 x.2
theorem AHs {L:List Tok} (hl:TokEnd L) (hll:L.length≤500000) {i:Nat} (hi:i<L.length) {m:Mov} {j:Nat} (h:Q6 L i=.ok m j):i<j∧j<L.length:=by
 unfold Q6 at h
 split at h
 ·cases h
 rename_i h0
 have hi1:i+1<L.length:=hl.step hi (by
  simp only [Dq,not_or,Tp,bne_eq_false_iff_eq] at h0
  rw [h0.1];decide)
 obtain ⟨m1,k,h1,h2⟩:=Zr h
 obtain ⟨u,j2,h3,h4⟩:=Zr h2
 injection h4 with h5 h6
 subst h6
 obtain ⟨a1,a2,_⟩:=vd hl hll _ (i+1) ⟨Ar _,Ar _,Ar _,Ar _⟩ (by omega) hi1 _ _ h1
 obtain ⟨b1,b2⟩:=Hz hl a2 _ _ h3
 exact ⟨by omega,b2⟩
theorem Q7 {L:List Tok} {l:List Mov} {i:Nat} (hl:l.length≤8):Ol L (9-l.length) l i=if (Ao L i).kind != 0 then (if (l.length:Int)==8 then dn L i 3 else (Q6 L i).bind fun m j=>Ol L (8-l.length) (l++[m]) j) else .ok l i:=by
 rw [show 9-l.length=(8-l.length)+1 by omega,Ol]
theorem MovAt.out {L:List Tok} {x:List Mov×Nat} (h:MovAt L x) (hk:((Ao L x.2).kind != 0)=false):Ld L=.ok x.1 x.2:=by
 rw [h.at_,Q7 h.le,if_neg (by rw [hk];simp)]
theorem MovAt.long {L:List Tok} {x:List Mov×Nat} (h:MovAt L x) (hk:((Ao L x.2).kind != 0)=true) (h8:((x.1.length:Int)==8)=true):Ld L=.bad 3 (Ao L x.2).at_:=by
 rw [h.at_,Q7 h.le,if_pos hk,if_pos h8];rfl
theorem MovAt.step {L:List Tok} {x:List Mov×Nat} (h:MovAt L x) (hk:((Ao L x.2).kind != 0)=true) (h8:((x.1.length:Int)==8)=false):Ld L=(Q6 L x.2).bind fun m j=>Ol L (8-x.1.length) (x.1++[m]) j:=by
 rw [h.at_,Q7 h.le,if_pos hk,if_neg (by rw [h8];simp)]
theorem MovAt.bad {L:List Tok} {x:List Mov×Nat} (h:MovAt L x) (hk:((Ao L x.2).kind != 0)=true) (h8:((x.1.length:Int)==8)=false) {e a:Int} (hM:Q6 L x.2=.bad e a):Ld L=.bad e a:=by
 rw [h.step hk h8,hM];rfl
theorem MovAt.on {L:List Tok} (hl:TokEnd L) (hll:L.length≤500000) {x:List Mov×Nat} (h:MovAt L x) (hk:((Ao L x.2).kind != 0)=true) (h8:((x.1.length:Int)==8)=false) {m:Mov} {j:Nat} (hM:Q6 L x.2=.ok m j):MovAt L (x.1++[m],j)∧x.2<j:=by
 obtain ⟨a1,a2⟩:=AHs hl hll h.lt hM
 have h1:x.1.length≤7:=by
  have:=h.le
  simp only [beq_eq_false_iff_ne,ne_eq] at h8
  omega
 refine ⟨⟨a2,by show (x.1++[m]).length≤8;simp;omega,?_⟩,a1⟩
 rw [h.step hk h8,hM]
 show Ol L (8-x.1.length) (x.1++[m]) j=Ol L (9-(x.1++[m]).length) (x.1++[m]) j
 rw [show 9-(x.1++[m]).length=8-x.1.length by rw [Ai,Kp];omega]
theorem zx {L:List Tok} {l:List Mov} {i:Nat} (h:Ld L=.ok l i):j5 L=.tup [Ew l,.agg [A5 0,A5 0]]:=by unfold j5 Sa;rw [h]
theorem AHt {fn fc:Func} {x0 r1 y r0 crest:Code} (hf:Tryz.prog.funcs[91]? = some fn) (hb:fn.body=some (.seq x0 (.seq r1 y))) (hf2:Tryz.prog.funcs[138]? = some fc) (hb2:fc.body=some (.seq r0 crest)) (L:List Tok) (o:Nat) (Hp:List AObj) (ho:Hp[o]? = some (pmO L 0)) (hl:TokEnd L) (hll:L.length≤500000) (hX:∃l i,Ld L=.ok l i) (d:Nat):
  AW Tryz.prog (d+1) y ⟨21,A7 0 (.ptr o 0) (A7 2 (.ptr (oid Hp.length 0) 0) (A7 3 (.ptr (oid Hp.length 1) 0) (A7 4 (.fn (.func 138) [] [.ptr (oid Hp.length 0) 0,.ptr (oid Hp.length 1) 0]) fun _=>.any))),Hp,[.cells 46 [.nil],.cells 69 [A5 0,A5 0]],[],none⟩ (KG Tryz.prog crest 8 3 2 [.ptr (oid Hp.length 0) 0,.ptr (oid Hp.length 1) 0] [.cell 2 46,.cell 3 69] Hp.length (fun r H'=>r=j5 L∧∃i,H'=Hp.set o (pmO L i))):=by
 have e:=Tryz.func91.symm.trans hf
 injection e with e
 subst e
 injection hb with hb
 injection hb with h1 h2
 injection h2 with h2 h3
 subst h3
 refine bg [0,2,3] (by simp only [go_sem,↓reduceIte,Nat.reduceEqDiff,Nat.reduceAdd]<;>rfl) ?_
 refine S8 (Is ho).symm ?_;refine Ma ?_
 refine B7 (α:=List Mov×Nat) (fun x=>⟨21,A7 0 (.ptr o 0) (A7 2 (.ptr (oid Hp.length 0) 0) (A7 3 (.ptr (oid Hp.length 1) 0) (fun _=>.any))),Hp.set o (pmO L x.2),[.cells 46 [.slice true 5 (x.1.map Gw)],.cells 69 [A5 0,A5 0]],[],none⟩) (fun x=>MovAt L x) (fun x=>L.length-x.2) (([],0)) ⟨hl.pos,by decide,rfl⟩ (StLe.nilCell (own:=[.cells 46 [.nil],.cells 69 [A5 0,A5 0]]) (n:=0) (j0:=0) (k:=5) (t:=46) (cs:=[.nil]) rfl rfl) rfl (fun x hx=>?_)
 refine Z32 ?_;refine Aa Tryz.call139 (AKk L x.2 o _ (Ag (getset ho)) hx.lt) ?_;refine Z0 ?_;refine A2 [0,2,3,8] ?_
 refine A3 (fun ht8=>?_) (fun ht8=>?_)
 ·have hk:((Ao L x.2).kind != 0)=true:=ht8
  refine Z5 ?_;refine Jk ?_;refine Z36 ?_;refine A2 [0,2,3,11] ?_
  refine A3 (fun ht11=>?_) (fun ht11=>?_)
  ·have h8:((x.1.length:Int)==8)=true:=by rw [Aj] at ht11;exact ht11
   exact (Do hX (hx.long hk h8)).elim
  have h8:((x.1.length:Int)==8)=false:=by rw [Aj] at ht11;exact ht11
  refine Z5 ?_
  rcases hM:Q6 L x.2 with ⟨m,j⟩|⟨e,a⟩
  rotate_left
  ·exact (Do hX (by first|exact hx.bad hk h8 hM|exact hM)).elim
  have hon:=hx.on hl hll hk h8 hM
  refine Xe [0,0,2,6,15,31] [0,2] [.s [14] (some 0) [] [],.q 1 [] [1],.s [16] (some 1) [] [],.q 1 [1] []] (fun B=>Hp.set o (pmO L (if B 1=true then j else x.2))) (fun B=>if B 0=true then [.cells 46 [.slice false 5 (x.1.map Gw)],.cells 69 [A5 0,A5 0]] else [.cells 46 [.slice true 5 (x.1.map Gw)],.cells 69 [A5 0,A5 0]]) An (by kernel_rfl) rfl rfl (fun B=>by simp) ?_
  refine Y.loadOwnT (u:=Hp.length) (n:=0) (t':=46) (cs:=[.slice true 5 (x.1.map Gw)]) (cs':=[.slice false 5 (x.1.map Gw)]) Tryz.isAgg46 (fun B hB=>⟨by simp,by simp only [hB];rfl,by simp only [hB];rfl,rfl⟩) ?_
  apply Y.q
  ·intro B hT hF
   exact Xh
  case hTF=>decide
  refine O9 (r:=Gw m) (o:=o) (x0:=pmO L x.2) (x:=pmO L j) Tryz.call141 (fun B hB1 hB2 hB=>⟨by simp only [hB];exact getset ho,by simp only [hB];exact (Dy ..).symm,rfl,Ff,?_⟩) ?_
  ·simp only [hB]
   exact ((ARv L x.2 o _ (Ag (getset ho)) hx.lt hl hll).ok hM)
  apply Y.q
  ·intro B hT hF
   exact Z62
  case hTF=>decide
  refine Ha (tn:=[0,2]) (U:=Hp.set o (pmO L j)) (O:=[.cells 46 [.slice false 5 (x.1.map Gw)],.cells 69 [A5 0,A5 0]]) ?_
  refine Eu jU Tryz.type48 ?_ ?_ ?_
  ·simp [Tryz.t48];have:=hx.le;omega
  ·simp [Tryz.t48];have:=hx.le;omega
  refine Xc jS ?_;refine A2 [0,2,3] ?_;refine N6 ?_
  refine Bb (x.1++[m],j) hon.1 (by have:=hx.lt;have:=hon.2;show L.length-j<L.length-x.2;omega) (Cg (by simp [By,show Tryz.t48.size=5 from rfl]))
 have hk:((Ao L x.2).kind != 0)=false:=ht8
 have e:=hx.out hk
 refine Z55 ?_;refine Z2 ?_;refine gk ?_;refine AF7 ?_;refine Z51 ?_;exact KG.fin .ret (Ay (Gv Tryz.isAgg46) (Bu Tryz.isAgg69 Tryz.sizeOf69)) (fun d=>AHr hf2 hb2 d _ _ _) ⟨(zx e).symm,x.2,rfl⟩ (hlow:=by simpa using (Gy (n:=Hp.length) (k:=5) (o:=false) (l:=x.1)))

theorem c91 (L:List Tok) (o:Nat) (Hp:List AObj) (ho:Hp[o]? = some (pmO L 0)) (hl:TokEnd L) (hll:L.length≤500000) (hX:∃l i,Ld L=.ok l i):ACall Tryz.prog 91 [.ptr o 0] Hp (fun r H'=>r=j5 L∧∃i,H'=Hp.set o (pmO L i)):=by
 refine ACall.guarded (n:=21) (nc:=8) (a:=3) (b:=2) (os:=[oid Hp.length 0,oid Hp.length 1]) (own0:=[.cells 46 [.nil],.cells 69 [A5 0,A5 0]]) (rs:=[.cell 2 46,.cell 3 69])
  (fr0:=A7 0 (.ptr o 0) (A7 2 (.ptr (oid Hp.length 0) 0) (A7 3 (.ptr (oid Hp.length 1) 0) fun _=>.any))) (fr1:=A7 0 (.ptr o 0) (A7 2 (.ptr (oid Hp.length 0) 0) (A7 3 (.ptr (oid Hp.length 1) 0) (A7 4 (.fn (.func 138) [] [.ptr (oid Hp.length 0) 0,.ptr (oid Hp.length 1) 0]) fun _=>.any))))
  Tryz.func91 rfl rfl Tryz.ntmps91 (by simp) Tryz.func138 rfl Tryz.ntmps138 rfl (by simp) (by decide) (by decide) Tryz.call138 (fun d=>?_) (fun d=>?_) rfl (fun d l=>?_)
 ·refine bg [0] (by simp only [go_sem,↓reduceIte,Nat.reduceEqDiff,Nat.reduceAdd]<;>rfl) ?_
  refine K8 ?_;refine Pm ?_;refine Pm ?_;refine A2 [0,2,3] ?_;exact ⟨rfl,rfl⟩
 ·refine Ka ?_;refine A2 [0,2,3,4] ?_
  rfl
 exact @AHt { b:=ErrAt.b,bd:=d+1,bl:=l } _ _ _ _ _ _ _ Tryz.func91 rfl Tryz.func138 rfl L o Hp ho hl hll hX d
theorem AKp {s:Str} (h:((Ic s).2.1 != 0)=false):ru s=Sa (Ic s).1:=by
 unfold ru Sa
 rw [if_neg (by rw [h];simp)]
 cases Ld (Ic s).1<;>rfl
theorem c45 (s:Str) (hs:s.length≤1048576) (hz0:(Ic s).2.1=0) (hX:∃l i,Ld (Ic s).1=.ok l i) (Hp:List AObj):AFun Tryz.prog 45 [Ae s] Hp (.tup [Ew (ru s).1,.agg [A5 (ru s).2.1,A5 (ru s).2.2]]):=by
 refine Af [.tmp 2,.cell 3 69] [0] Tryz.func45 Tryz.ntmps45 (fun d=>?_)
 refine Z2 ?_;refine Pm ?_;refine Ln ?_;refine Z2 ?_;refine Aa Tryz.call71 (c71 s hs _) ?_;refine Z22 ?_;refine AIs ?_;refine A2 [3,4,5] ?_;refine Z36 ?_;refine A2 [3,4,5,13] ?_
 refine A3 (fun ht13=>?_) (fun ht13=>?_)
 ·rw [hz0] at ht13;cases ht13
 have hz:(Ic s).2.1=0:=by simpa using ht13
 have hle:=AGh hz
 have hlen:=AGv hz
 have e:=AKp ht13
 refine Lm ?_;refine gk ?_;refine R.box ?_
 refine R.callEx (fun _=>Hp) (fun i=>[.cells 69 [A5 0,A5 0],.cells 69 [A5 (Ic s).2.1,A5 ((Ic s).2.2:Nat)],pmO (Ic s).1 i]) Tryz.call91 ((c91 (Ic s).1 (oid Hp.length 2) _ (by rw [Bm];rfl) hle (by omega) hX).mono (fun r H' ⟨e,i,h⟩=>⟨e,i,h.trans (by rw [Gf];rfl)⟩)) (fun _=>rfl) (fun _ h=>h) (fun i=>?_)
 refine Z22 ?_;refine Iq ?_;refine Z51 ?_;exact A8 (Ay A6 (Bu jA jS)) ⟨by rw [e],rfl⟩ (hlow:=by simpa using (Gy (n:=Hp.length) (k:=5) (o:=false) (l:=(Sa (Ic s).1).1)))

/-! How long plan.Text's pieces are. -/
/-- The trees forth are as many as the columns behind, and may be walked. -/
theorem AEh {c:List Col} {l:List Mov} (hc:OkCols c) (h:OkMovs l) (hs:((Cq c l).2 != 0)=false):TOk (Fc c l).1∧((Fc c l).2=0→(Fc c l).1.length=(AD4 c l).1.length):=by
 obtain ⟨hmay,hst,_⟩:=Ep hs
 have hmv:=If hmay
 have e:Fc c l=H0 c (Iv c) l:=if_neg (by rw [hs];simp)
 have key:∀k,k≤l.length→(Lc c l k∧TOk (Cd c l k)∧(Cd c l k).length=(colsAt c l k).length)∨(∃z,z≠0∧H0 c (Iv c) l=([],z)):=by
  intro k
  induction k with
  | zero=>exact fun _=>.inl ⟨AKh,rn hc,by simp [Cd,Iv,colsAt]⟩
  | succ k ih =>
   intro hk
   rcases ih (by omega) with ⟨h1,h2,h3⟩|h1
   ·have hmk:l[k]? = some l[k]:=Ab (by omega)
    cases he:((C6 (colsAt c l k) (Cd c l k) l[k].ahead).2 != 0) with
    | true=>exact .inr ⟨_,by simpa using he,rl hmk h1 he⟩
    | false=>exact .inl ⟨iy hmk h1 he,ut hmk (h.each _ (B1 (by omega))) h2 he,mn hmk (hmv _ (B1 (by omega))) (Ls hst hmk) h3 he⟩
   exact .inr h1
 rcases key l.length (Ak _) with ⟨h1,h2,h3⟩|⟨z,hz,h1⟩
 ·rw [e,rm h1,za hs]
  exact ⟨h2,fun _=>h3⟩
 rw [e,h1]
 exact ⟨⟨fun e h=>(F5 h).elim,fun e h=>(F5 h).elim⟩,fun h=>absurd h hz⟩
section
variable {O X U:List AObj} {i:Nat} {b y:AObj}
end
/-- Moves whose numbers are ones of 64 bits. -/
structure RngMv (m:Mov):Prop where
 ahead:∀e∈m.ahead,Dw Hs e=true
 back:∀e∈m.back,Dw Hs e=true
theorem mz {l:List Expr} (h20:l.length≤1048576) (h:l.any Vl=false) (hr:∀e∈l,Dw Hs e=true):OkEs l:=by
 have h1:∀e∈l,Slim e:=fun e he=>tr (by
  rw [L4] at h
  simpa using h e he)
 exact ⟨h20,fun e he=>(h1 e he).ok,fun e he=>by have:=(h1 e he).size;omega,hr⟩
theorem zy {m:Mov} (h:Mi m=false) (hr:RngMv m):OkMov m:=by
 unfold Mi at h
 simp only [Ej,decide_eq_false_iff_not] at h
 obtain ⟨⟨⟨⟨⟨⟨h1,h2⟩,h3⟩,h4⟩,h5⟩,h6⟩,h7⟩:=h
 have h50:m.give.length≤1000000:=by
  unfold N0 at h1
  simp only [Ej,decide_eq_false_iff_not] at h1
  omega
 refine ⟨by omega,fun s hs=>?_,u6 h1,h50,mz (by omega) h6 hr.ahead,mz (by omega) h7 hr.back⟩
 rw [L4] at h5
 have:=h5 s hs
 simp only [decide_eq_true_eq] at this
 omega
theorem dr {l:List Mov} (h:Jt l=false) (hr:∀m∈l,RngMv m):OkMovs l:=by
 unfold Jt at h
 simp only [Ej,decide_eq_false_iff_not] at h
 refine ⟨by omega,fun m hm=>zy ?_ (hr m hm)⟩
 rw [L4] at h
 simpa using h.2 m hm
theorem AEi {c:List Col} (h:N0 c=false):c.length≤1000000:=by
 unfold N0 at h
 simp only [Ej,decide_eq_false_iff_not] at h
 omega
/-! fuse: the chapter's example, and the weight of trees. -/
def fzS:Str:=[114,101,110,97,109,101,32,97,32,116,111,32,98,59,32,97,100,100,32,99,32,105,110,116,32,61,32,98,32,42,32,50,59]
def fzL:List Mov:=(ru fzS).1
theorem AEj:ru fzS=(fzL,0,0):=by kernel_rfl
def fzC:List Col:=[⟨[97],1⟩]
theorem AHu:OkCols fzC:=⟨by decide,fun y hy=>by rw [Bl.1 hy];decide⟩
/-! ref21.Over: names that nothing has stand between. -/
/-! How great the trees of ref21.Over are on the way. -/
theorem AKq {l:List Mov} (h:(l.all fun m=>m.ahead.all (fun e=>Dw Hs e)&&m.back.all (fun e=>Dw Hs e))=true):∀m∈l,RngMv m:=fun m hm=>by
 have:=B2.1 h m hm
 rw [As] at this
 exact ⟨fun e he=>B2.1 this.1 e he,fun e he=>B2.1 this.2 e he⟩
theorem AOu:OkMovs fzL:=dr (by kernel_rfl) (AKq (by kernel_rfl))
def fzT:List Expr:=(Fc fzC fzL).1
theorem AEk:Fc fzC fzL=(fzT,0):=by kernel_rfl
def fzE:Expr:=fzT.getD 1 Ap
theorem AKr:(fzT.map A9)[1]? = some (A9 fzE):=by kernel_rfl
theorem AKs:fzT.length=2:=by kernel_rfl
theorem AKt:Dw Hs fzE=true:=by kernel_rfl
theorem AHv:Vl fzE=false:=by kernel_rfl
theorem AHw:Vs fzE=([97,32,42,32,50],0):=by kernel_rfl
theorem c28 (Hp:List AObj):AFun Tryz.prog 28 [] Hp (Bk true):=by
 refine Af [.tmp 0] [] Tryz.func28 Tryz.ntmps28 (fun d=>?_)
 refine Z2 ?_;refine A2 [] ?_;refine Fp ?_;refine Aa Tryz.call45 (c45 fzS (by decide) (by kernel_rfl) (AOr (by kernel_rfl)) _) ?_
 rw [AEj]
 refine Z22 ?_;refine AIs ?_;refine A2 [1,2] ?_;refine AMp ?_;refine g0 jU jS jZ ?_;refine A4 ?_;refine Aa Tryz.call30 (c30 fzC AHu (by decide) fzL AOu _) ?_
 rw [AEk]
 refine Z75 ?_;refine A2 [2,3,4] ?_;refine Z8 ?_;refine Z47 ?_;refine Z0 ?_;refine Sr ?_;refine A2 [3,29] ?_
 refine A3 (fun ht29=>?_) (fun ht29=>?_)
 ·rw [Aj,AKs] at ht29;cases ht29
 refine Lm ?_
 refine A4 (h:=Ac (1) (A9 fzE) (fun _=>AKr)) (hr:=?_)
 refine A4 ?_;refine Aa Tryz.call34 (c34 61 fzE (tr AHv).ok (by decide) AKt _) ?_
 rw [AHw]
 refine Z75 ?_;refine A2 [5,6] ?_;refine Z17 ?_;refine ae ?_;refine A2 [0] ?_;refine Gn ?_;exact A8 (Ah A6) ⟨by rfl,rfl⟩

theorem s6 {c:List Col} {l:List Mov} {row:List Val} (h:OkMovs l) (h0:RowI (colsAt c l l.length) row):∀k,k≤l.length→(bkM c l row k).2=0→BkAt c l row k
 | 0,_,_=>.zero h0
 | k+1,hk,he=>by
  have h1:(bkM c l row k).2=0:=Hm fun hn=>by
   rw [iz hn (k+1) (by omega)] at he
   exact hn he
  obtain ⟨m,hm⟩:∃m,l[l.length-1-k]? = some m:=⟨l[l.length-1-k],Ab (by omega)⟩
  refine (s6 h h0 k (by omega) h1).next (by omega) hm (fun e he=>(h.each m (B0 hm)).back.rng e he) ?_
  rw [←Tf hm h1]
  exact he
theorem zz {c:List Col} {l:List Mov} {row:List Val} (h:OkMovs l) (hrr:∀v∈row, -9223372036854775808≤v.n∧v.n≤9223372036854775807) (hb:(Dz c l row).2=0):RowI c (Dz c l row).1:=by
 unfold Dz at hb ⊢
 split at hb
 ·cases hb
 rename_i h1
 rw [if_neg h1]
 have h2:Gs (colsAt c l l.length) row=true:=by
  simp only [Dq,Db,not_or,eh] at h1
  exact h1.2
 have:=(s6 h (Td h2 hrr) l.length (Ak _) hb).row
 rw [O2] at this
 exact this
theorem AKu {c:List Col} {l:List Mov} {row:List Val}:∀k,(bkM c l row k).2≠0→(bkM c l row k).1=[]
 | 0,h=>absurd rfl h
 | k+1,h=>by
  rw [bkM] at h ⊢
  split
  ·rfl
  rename_i h1
  rw [if_neg h1] at h
  split at h
  ·exact AFt
  exact dh h
theorem dt {c:List Col} (hc:OkCols c) {l:List Mov} {row:List Val} (h:OkMovs l) (hrr:∀v∈row, -9223372036854775808≤v.n∧v.n≤9223372036854775807):(Dz c l row).1.length≤1048576:=by
 by_cases hb:(Dz c l row).2=0
 ·rw [(zz h hrr hb).len]
  exact hc.len
 unfold Dz at hb ⊢
 split
 ·exact oz
 rename_i h1
 rw [if_neg h1] at hb
 rw [AKu _ hb]
 exact oz
theorem j6 {c:List Col} {l:List Mov} {row:List Val} (h:OkMovs l) (hs:((Cq c l).2 != 0)=false) (h0:RowI c row):∀k,k≤l.length→(fwM c l row k).2=0→RowI (colsAt c l k) (fwM c l row k).1
 | 0,_,_=>h0
 | k+1,hk,he=>by
  obtain ⟨hmay,hst,_⟩:=Ep hs
  have h1:(fwM c l row k).2=0:=Hm fun hn=>by
   rw [Zm hn (k+1) (by omega)] at he
   exact hn he
  obtain ⟨m,hm⟩:∃m,l[k]? = some m:=⟨l[k],Ab (by omega)⟩
  have hml:=B0 hm
  have e:=Te hm h1
  rw [e,Fq hm]
  exact Uz (Ls hst hm) (If hmay m hml) (fun e he=>(h.each m hml).ahead.rng e he) (j6 h hs h0 k (by omega) h1) (by rw [←e];exact he)
/-! ImageJoins: rows forth and back, move by move. -/
theorem du {over:List Col}:∀{l:List Expr} {w:List Col},Ck over l w=0→∀(j:Nat) (x:Expr) (y:Col),l[j]? = some x→w[j]? = some y→Mh x over y.kind=0
 | [],_,_,j,x,y,h,_=>by simp at h
 | _::_,[],_,j,x,y,_,h=>by simp at h
 | a::l,b::w,h,j,x,y,h1,h2=>by
  rw [Ck] at h
  by_cases h0:(Mh a over b.kind != 0)=true
  ·rw [if_pos h0] at h
   rw [h] at h0
   cases h0
  rw [if_neg h0] at h
  cases j with
  | zero =>
   have e1:a=x:=by simpa using h1
   have e2:b=y:=by simpa using h2
   rw [←e1,←e2]
   simpa using h0
  | succ j=>exact du h j x y (by simpa using h1) (by simpa using h2)
theorem AHx {x:Expr} {c:List Col} {k:Int} {row:List Val} (h:Mh x c k=0) (hr:Gs c row=true) (he:(En x c row).2=0):(En x c row).1.kind=0∨(En x c row).1.kind=k:=by
 unfold Mh at h
 by_cases h1:((F4 x c).2 != 0)=true
 ·rw [if_pos h1] at h
  rw [h] at h1
  cases h1
 rw [if_neg h1] at h
 have h1:(F4 x c).2=0:=by simpa using h1
 by_cases h2:(!R6 x c k)=true
 ·rw [if_pos h2] at h
  cases h
 have h2:R6 x c k=true:=by simpa using h2
 unfold R6 at h2
 simp only [As,Dq,beq_iff_eq] at h2
 have:=(zf h1 hr).kind he
 rcases h2.2 with h3|h3<;>omega
theorem s7 {c:List Col} {m:Mov} (h:(C1 c m).2=0):Ck c m.ahead (B8 c m)=0∧Ck (C1 c m).1 m.back (Gx c m)=0:=by
 by_cases h1:((Da c m.take (B8 c m)).2 != 0)=true
 ·rw [im h1] at h
  rw [show (Da c m.take (B8 c m)).2=0 from h] at h1
  cases h1
 have h1:((Da c m.take (B8 c m)).2 != 0)=false:=by simpa using h1
 by_cases h2:(Ck c m.ahead (B8 c m) != 0)=true
 ·rw [io h1 h2] at h
  rw [show Ck c m.ahead (B8 c m)=0 from h] at h2
  cases h2
 have h2:(Ck c m.ahead (B8 c m) != 0)=false:=by simpa using h2
 by_cases h3:(Ck (Da c m.take (B8 c m)).1 m.back (Gx c m) != 0)=true
 ·rw [ip h1 h2 h3] at h
  rw [show Ck (Da c m.take (B8 c m)).1 m.back (Gx c m)=0 from h] at h3
  cases h3
 have h3:(Ck (Da c m.take (B8 c m)).1 m.back (Gx c m) != 0)=false:=by simpa using h3
 rw [iq h1 h2 h3]
 exact ⟨by simpa using h2,by simpa using h3⟩
theorem Zu {c:List Col} {row:List Val}:∀{l:List Expr},(Ba c row l).2=0→∀(j:Nat) (x:Expr),l[j]? = some x→(En x c row).2=0∧(Ba c row l).1[j]? = some (En x c row).1
 | [],_,j,x,h=>by simp at h
 | a::r,h,j,x,hx=>by
  rw [Ba] at h ⊢
  by_cases h1:((En a c row).2 != 0)=true
  ·rw [if_pos h1] at h
   rw [show (En a c row).2=0 from h] at h1
   cases h1
  rw [if_neg h1] at h ⊢
  by_cases h2:((Ba c row r).2 != 0)=true
  ·rw [if_pos h2] at h
   rw [show (Ba c row r).2=0 from h] at h2
   cases h2
  rw [if_neg h2]
  cases j with
  | zero =>
   have e1:a=x:=by simpa using hx
   rw [←e1]
   exact ⟨by simpa using h1,rfl⟩
  | succ j=>exact Zu (l:=r) (by simpa using h2) j x (by simpa using hx)
theorem dv {take:List Str}:∀{c:List Col} {row:List Val},row.length=c.length→∀(i:Nat) (v:Val) (y:Col),(G7 take c row)[i]? = some v→(D6 c take)[i]? = some y→∃j:Nat,row[j]? = some v∧c[j]? = some y
 | [],[],_,i,v,y,h,_=>by simp [G7] at h
 | a::c,b::row,hl,i,v,y,h1,h2=>by
  have hl2:row.length=c.length:=by simpa using hl
  unfold G7 at h1
  unfold D6 at h2
  rw [List.zip_cons_cons,L6] at h1
  rw [L6] at h2
  have ih:=dv (take:=take) hl2
  by_cases ht:(!take.contains a.name)=true
  ·rw [if_pos ht] at h1 h2
   cases i with
   | zero=>exact ⟨0,by simpa using h1,by simpa using h2⟩
   | succ i =>
    obtain ⟨j,e1,e2⟩:=ih i v y (by simpa [G7] using h1) (by simpa [D6] using h2)
    exact ⟨j+1,by simpa using e1,by simpa using e2⟩
  rw [if_neg ht] at h1 h2
  obtain ⟨j,e1,e2⟩:=ih i v y (by simpa [G7] using h1) (by simpa [D6] using h2)
  exact ⟨j+1,by simpa using e1,by simpa using e2⟩
 | [],_::_,hl,_,_,_,_,_=>by simp at hl
 | _::_,[],hl,_,_,_,_,_=>by simp at hl
theorem n5 {c:List Col} (h:Ct c=true):Hw c=true:=by
 unfold Ct at h
 simp only [As] at h
 exact h.2
/-- What comes forth is a row over the columns behind. -/
theorem s8 {c:List Col} {m:Mov} {row:List Val} (ht:(C1 c m).2=0) (hm:Gj m=true) (hg:∀e∈m.ahead,Dw Hs e=true) (h:RowI c row) (hp:Gs c row=true) (hf:(Er c m row).2=0):Gs (C1 c m).1 (Er c m row).1=true:=by
 have hR:=Uz ht hm hg h hf
 obtain ⟨e1,hrc,hrt⟩:=Mn ht
 obtain ⟨p1,p2,p3⟩:=row_iff.1 hp
 refine row_iff.2 ⟨n5 hrt,hR.len,fun i v y hv hy=>?_⟩
 refine ⟨(hR.fine v (B0 hv)).plain,?_⟩
 have hk:(Ba c row m.ahead).2=0:=by
  unfold Er at hf
  by_cases h1:((Ba c row m.ahead).2 != 0)=true
  ·rw [if_pos h1] at hf
   exact hf
  simpa using h1
 have ev:Er c m row=(G7 m.take c row++(Ba c row m.ahead).1,0):=if_neg (by rw [hk];simp)
 rw [ev] at hv
 rw [e1] at hy
 have hlen:=Tb (take:=m.take) h.len
 rcases Bv i (G7 m.take c row).length with hi|hi
 ·rw [Di hi] at hv
  rw [Di (by omega)] at hy
  obtain ⟨j,j1,j2⟩:=dv h.len i v y hv hy
  exact (p3 j v y j1 j2).2
 rw [Dd hi] at hv
 rw [Dd (by omega),←hlen] at hy
 generalize i-(G7 m.take c row).length=j at hv hy
 have hj:j<m.ahead.length:=by
  have:=(Ad.1 hv).1
  rw [Mo hk] at this
  exact this
 obtain ⟨a1,a2⟩:=Zu hk j m.ahead[j] (Ab hj)
 rw [a2] at hv
 injection hv with hv
 rw [←hv]
 exact AHx (du (s7 ht).1 j _ y (Ab hj) hy) hp a1
/-! Columns of parts of moves. -/
/-- Rows on the way forth are rows. -/
theorem vg {c:List Col} {l:List Mov} {row:List Val} (h:OkMovs l) (hs:((Cq c l).2 != 0)=false) (h0:RowI c row) (hp:Gs c row=true):∀k,k≤l.length→(fwM c l row k).2=0→Gs (colsAt c l k) (fwM c l row k).1=true
 | 0,_,_=>hp
 | k+1,hk,he=>by
  obtain ⟨hmay,hst,_⟩:=Ep hs
  have h1:(fwM c l row k).2=0:=Hm fun hn=>by
   rw [Zm hn (k+1) (by omega)] at he
   exact hn he
  obtain ⟨m,hm⟩:∃m,l[k]? = some m:=⟨l[k],Ab (by omega)⟩
  have hml:=B0 hm
  have e:=Te hm h1
  rw [e,Fq hm]
  exact s8 (Ls hst hm) (If hmay m hml) (fun e he=>(h.each m hml).ahead.rng e he) (j6 h hs h0 k (by omega) h1) (vg h hs h0 hp k (by omega) h1) (by rw [←e];exact he)
theorem AEl {c:List Col} {l:List Mov} {row:List Val} (hs:((Cq c l).2 != 0)=false) (hp:Gs c row=true):Bp c l row=fwM c l row l.length:=if_neg (by rw [hs,hp];simp)
theorem AHy {c:List Col} {l:List Mov} {row:List Val} (hs:((Cq c l).2 != 0)=false) (hp:Gs (colsAt c l l.length) row=true):Dz c l row=bkM c l row l.length:=if_neg (by rw [hs,hp];simp)
/-! A row that went forth through a move comes back through it, where the trees back come to what was taken. -/
theorem s9 {c:List Col} {m:Mov} {row:List Val} (hf:(Er c m row).2=0):(Ba c row m.ahead).2=0∧(Er c m row).1=G7 m.take c row++(Ba c row m.ahead).1:=by
 unfold Er at hf ⊢
 split at hf
 ·rename_i h1
  rw [show (Ba c row m.ahead).2=0 from hf] at h1
  cases h1
 rename_i h1
 rw [if_neg h1]
 exact ⟨by simpa using h1,rfl⟩
theorem sa {x:Expr} {c:List Col} {l:List Val} (h:(En x c l).2=0):B3 x=true∧Gs c l=true∧En x c l=Cb c l x:=by
 have h:(T7 B9 x c l).2=0:=h
 show _∧_∧T7 B9 x c l=_
 unfold T7 at h ⊢
 split at h
 ·cases h
 rename_i h1
 rw [if_neg h1]
 simp only [Dq,Db,not_or,eh] at h1
 exact ⟨h1.1,h1.2,rfl⟩
theorem AEm {x:Expr} {c:List Col} {l:List Val} (hx:B3 x=true) (hr:Gs c l=true):En x c l=Cb c l x:=by
 show T7 B9 x c l=_
 unfold T7
 rw [if_neg (by rw [hx,hr];simp)]
theorem AHz {c:List Col} {l:List Val} {t:Str}:Cb c l (Cw t)=L3 c l t:=by
 show Fb B9 _ _ _=_
 rw [Nu]
 rfl
/-! fuse.Back: the trees of all columns ahead. -/
def V2:Mov:=⟨0,[],[],[],[]⟩
def Tl (c:List Col) (ms:List Mov) (i:Nat) (t:List Expr):List Expr×Int:=C6 (colsAt c ms (i+1)) t (ms.getD i V2).back
def Q8 (take:List Str) (was t:List Expr) (d:List Col) (x:Col):Expr:=if 0≤Jp x.name take then was.getD (Jp x.name take).toNat Ap else t.getD (B6 x.name d).toNat Ap
def Mp (c:List Col) (take:List Str) (was t:List Expr) (d:List Col):List Expr:=c.map (Q8 take was t d)
def Q9 (c:List Col) (ms:List Mov):Nat→List Expr→List Expr×Int
 | 0,t=>(t,0)
 | i+1,t=>if (Tl c ms i t).2 != 0 then ([],(Tl c ms i t).2) else Q9 c ms i (Mp (colsAt c ms i) (ms.getD i V2).take (Tl c ms i t).1 t (colsAt c ms (i+1)))
def Ij (c:List Col) (l:List Mov):List Expr×Int:=if (Cq c l).2 != 0 then ([],1) else Q9 c l l.length (Iv (colsAt c l l.length))
def Cp (c:List Col) (ms:List Mov):Nat→List Expr
 | 0=>Iv (colsAt c ms ms.length)
 | k+1=>Mp (colsAt c ms (ms.length-1-k)) (ms.getD (ms.length-1-k) V2).take (Tl c ms (ms.length-1-k) (Cp c ms k)).1 (Cp c ms k) (colsAt c ms (ms.length-1-k+1))
theorem AI0 {c:List Col} {l:List Mov} (h:((Cq c l).2 != 0)=true):Ij c l=([],1):=if_pos h
theorem Tm {c:List Col} {l:List Mov} (h:((Cq c l).2 != 0)=false):Ij c l=Q9 c l l.length (Iv (colsAt c l l.length)):=if_neg (by rw [h];simp)
theorem vh {l:List Expr} {n:Nat}:l.getD n Ap∈l∨l.getD n Ap=Ap:=by
 rw [C9]
 cases h:l[n]? with
 | none=>exact .inr rfl
 | some e=>exact .inl (B0 h)
theorem AI1 {take:List Str} {was t:List Expr} {d:List Col} {x:Col}:Q8 take was t d x∈was∨Q8 take was t d x∈t∨Q8 take was t d x=Ap:=by
 unfold Q8
 split
 ·rcases vh (l:=was) (n:=(Jp x.name take).toNat) with h|h
  ·exact .inl h
  exact .inr (.inr h)
 rcases vh (l:=t) (n:=(B6 x.name d).toNat) with h|h
 ·exact .inr (.inl h)
 exact .inr (.inr h)
theorem AEn {c d:List Col} {take:List Str} {was t:List Expr} (hw:TOk was) (ht:TOk t):TOk (Mp c take was t d):=by
 have h0:okE 61 Ap:=⟨by simp [Ap,Expr.text],by simp [Ap,Expr.kids],fun z hz=>by simp [Ap,Expr.kids] at hz⟩
 refine ⟨fun e he=>?_,fun e he=>?_⟩<;>obtain ⟨x,_,rfl⟩:=Cr.1 he<;>rcases AI1 (take:=take) (was:=was) (t:=t) (d:=d) (x:=x) with h|h|h
 ·exact hw.ok _ h
 ·exact ht.ok _ h
 ·rw [h];exact h0
 ·exact hw.rng _ h
 ·exact ht.rng _ h
 rw [h];rfl
/-- Where the way back stands behind k moves. -/
structure BackAt (c:List Col) (ms:List Mov) (k:Nat):Prop where
 eq:Q9 c ms ms.length (Iv (colsAt c ms ms.length))=Q9 c ms (ms.length-k) (Cp c ms k)
 ok:TOk (Cp c ms k)
 len:(Cp c ms k).length=(colsAt c ms (ms.length-k)).length
theorem BackAt.zero {c:List Col} {ms:List Mov} (hc:OkCols (colsAt c ms ms.length)):BackAt c ms 0:=⟨rfl,rn hc,by simp [Cp,Iv]⟩
theorem BackAt.err {c:List Col} {ms:List Mov} {k:Nat} (h:BackAt c ms k) (hk:k<ms.length) (he:((Tl c ms (ms.length-1-k) (Cp c ms k)).2 != 0)=true):Q9 c ms ms.length (Iv (colsAt c ms ms.length))=([],(Tl c ms (ms.length-1-k) (Cp c ms k)).2):=by
 rw [h.eq,show ms.length-k=ms.length-1-k+1 by omega,Q9,if_pos he]
theorem BackAt.next {c:List Col} {ms:List Mov} {k:Nat} (h:BackAt c ms k) (hk:k<ms.length) (hm:OkMov (ms.getD (ms.length-1-k) V2)) (he:((Tl c ms (ms.length-1-k) (Cp c ms k)).2 != 0)=false):BackAt c ms (k+1):=by
 refine ⟨?_,?_,?_⟩
 ·rw [h.eq,show ms.length-k=ms.length-1-k+1 by omega,Q9,if_neg (by rw [he];simp),show ms.length-(k+1)=ms.length-1-k by omega]
  rfl
 ·exact AEn (Uy h.ok _ hm.back.ok hm.back.rng (bne_eq_false_iff_eq.1 he)) h.ok
 rw [Cp,Mp,Aj,show ms.length-(k+1)=ms.length-1-k by omega]
theorem BackAt.fin {c:List Col} {ms:List Mov} (h:BackAt c ms ms.length):Q9 c ms ms.length (Iv (colsAt c ms ms.length))=(Cp c ms ms.length,0):=by
 have:=h.eq
 rw [O2] at this
 exact this
theorem AKv {v:Str} {l:List Str} (h:0≤Jp v l):∃j:Nat,Jp v l=j∧j<l.length:=by
 unfold Jp at h ⊢
 cases hf:l.findIdx? (·==v) with
 | none=>rw [hf] at h;exact absurd h (by decide)
 | some i=>exact ⟨i,rfl,(L7.1 hf).1⟩
theorem AI2 {nm:Str} {c:List Col} {y:Col} (h:y∈c) (hn:y.name=nm):∃j:Nat,B6 nm c=j∧j<c.length:=by
 unfold B6
 cases hf:c.findIdx? (fun y=>y.name==nm) with
 | none =>
  rw [P1] at hf
  have:=hf y h
  rw [hn] at this
  simp at this
 | some i=>exact ⟨i,rfl,(L7.1 hf).1⟩
/-- A column that is not taken is there behind the move. -/
theorem AOv {c:List Col} {m:Mov} {y:Col} (ht:(C1 c m).2=0) (hy:y∈c) (hn:¬0≤Jp y.name m.take):∃j:Nat,B6 y.name (C1 c m).1=j∧j<(C1 c m).1.length:=by
 refine AI2 (y:=y) ?_ rfl
 rw [(Mn ht).1]
 refine Wf _ ?_
 unfold D6
 rw [Se]
 refine ⟨hy,?_⟩
 rw [←ic,decide_eq_false hn]
 rfl
theorem n6 {c d:List Col} {take:List Str} {was t:List Expr} {z:Nat} (h:z<c.length):(Mp c take was t d).take (z+1)=(Mp c take was t d).take z++[Q8 take was t d c[z]]:=by
 have hl:z<(Mp c take was t d).length:=by rw [Mp,Aj];exact h
 rw [Hv hl]
 simp [Mp]
theorem n7 {n k:Nat} {o:Bool} {l:List Expr}:∀z∈[AV.slice o k (l.map A9)],Low n z:=fun z hz=>by rw [Bl.1 hz];exact Ce
theorem AOw {l:List Expr} {j:Nat} (h:j<l.length):(l.map A9)[j]? = some (A9 (l.getD j Ap)):=by
 rw [Cf,Ab h,C9,Ab h];rfl
theorem c32 (c:List Col) (hc:OkCols c) (hc2:c.length≤1000000) (l:List Mov) (h:OkMovs l) (Hp:List AObj):AFun Tryz.prog 32 [Am c,Ew l] Hp (.tup [Cj (Ij c l).1,A5 (Ij c l).2]):=by
 refine Af [.cell 4 24,.cell 5 35] [0,1] Tryz.func32 Tryz.ntmps32 (fun d=>?_)
 refine Z35 ?_;refine Pm ?_;refine A2 [0,1,4,5] ?_;refine AF3 ?_;refine Xj ?_;refine A2 [1,4,5,6,7] ?_;refine Z8 ?_;refine A2 [1,4,5,6,24] ?_
 refine A3 (fun ht24=>?_) (fun ht24=>?_)
 ·have hm:=AI0 ht24
  refine Fp ?_;refine Iq ?_;refine Rl 0 6 ?_;refine Iq ?_;refine Z52 ?_;exact ANd
 have hm:=Tm ht24
 obtain ⟨hmay,hst,hss⟩:=Ep ht24
 have hmvo:=If hmay
 have hcn:=Fe hc (fun m hm=>h.each m hm) l.length
 have hlen:=h.len
 have hol:((Bx c l l.length).map Am).length=l.length+1:=by rw [Aj,Hi]
 rw [hss]
 refine Z5 ?_;refine Z27 ?_
 refine A4 (h:=Ac (l.length) (Am (colsAt c l l.length)) (fun _=>We (Gk (Ak _)))) (hr:=?_)
 refine A4 ?_;refine Aa Tryz.call64 (c64 (colsAt c l l.length) hcn.len _) ?_;refine Z19 ?_;refine A2 [1,4,5,6,8] ?_;refine Z67 ?_
 refine N8 (fun hlow=>?_)
 refine A4 ?_;refine Aa Tryz.call69 (c69 l _) ?_;refine A2 [4,5,6,8,33] ?_;refine Jk ?_
 refine Ob (m:=4) Tryz.call112 (fun FR as' bd' hFR has hbd=>?_)
 have hFRl:∀s,Low (Hp.length+6) (FR s):=by
  intro s
  rw [hFR]
  refine P4 ?_
  revert s
  repeat (first|exact Be|refine Bd (by first|(simp [oid,or_imp,forall_and];done)|(simp [oid,or_imp,forall_and];exact ⟨fun m _ a _=>Av _ a,fun m _ a _=>Av _ a⟩)|(simp [oid,or_imp,forall_and]<;>omega)) ?_)
 have hOl:∀{e:Int} {t:List Expr} {lp:AObj},ObjLow (Hp.length+6) lp→∀x∈Hp++[AObj.cells 24 [AV.nil],AObj.cells 35 [A5 e],AObj.cells 59 [Gb (Bx c l l.length)],AObj.cells 24 [Cj (t)],AObj.defs,lp],ObjLow (Hp.length+6) x:=by
  intro e t lp hlp x hx
  refine Lp (fun x hx=>Oe (by omega) (hlow x hx)) (fun x hx=>?_) x hx
  simp only [B5,El,or_false] at hx
  rcases hx with rfl|rfl|rfl|rfl|rfl|rfl
  ·intro y hy;rw [Bl.1 hy];simp
  ·intro y hy;rw [Bl.1 hy];simp
  ·intro y hy;rw [Bl.1 hy];exact F3
  ·intro y hy;rw [Bl.1 hy];exact Ce
  ·trivial
  exact hlp
 refine ⟨_,AOo (oid Hp.length 5) l h.len (fun k=>Hp++[AObj.cells 24 [AV.nil],AObj.cells 35 [A5 0],AObj.cells 59 [Gb (Bx c l l.length)],AObj.cells 24 [Cj (Cp c l k)],AObj.defs,AObj.loop LoopState.ready none FR 91 #[34,35] as' bd' (oid Hp.length 4)]) (BackAt c l) (fun V=>(∃t,V=Hp++[AObj.cells 24 [AV.nil],AObj.cells 35 [A5 0],AObj.cells 59 [Gb (Bx c l l.length)],AObj.cells 24 [Cj (t)],AObj.defs,AObj.loop LoopState.ready none FR 91 #[34,35] as' bd' (oid Hp.length 4)]∧Ij c l=(t,0))∨(∃(e:Int) (t:List Expr),V=Hp++[AObj.cells 24 [AV.nil],AObj.cells 35 [A5 e],AObj.cells 59 [Gb (Bx c l l.length)],AObj.cells 24 [Cj (t)],AObj.defs,AObj.loop LoopState.done (some Code.ret) FR 91 #[34,35] as' bd' (oid Hp.length 4)]∧Ij c l=([],e))) (fun k=>by simp) (by simp [oid]) (fun k=>(fun x hx=>by rw [Ai];exact hOl (lp:=AObj.loop LoopState.ready none FR 91 #[34,35] as' bd' (oid Hp.length 4)) (by exact ⟨hFRl,by simp [oid]⟩) x hx)) (.zero hcn) (fun k m X hk hm hN=>?_) (fun hN=>.inl ⟨_,rfl,by rw [Tm (by simpa using ht24),hN.fin]⟩),?_⟩
 ·generalize hV:Hp++[AObj.cells 24 [AV.nil],AObj.cells 35 [A5 0],AObj.cells 59 [Gb (Bx c l l.length)],AObj.cells 24 [Cj (Cp c l k)],AObj.defs,AObj.loop LoopState.ready none FR 91 #[34,35] as' bd' (oid Hp.length 4)]++X=V
  have hL:V[oid Hp.length 5]? = some (AObj.loop LoopState.ready none FR 91 #[34,35] as' bd' (oid Hp.length 4)):=by rw [←hV,Bn,Bm];rfl
  have hA0:V[oid Hp.length 0]? = some (AObj.cells 24 [AV.nil]):=by rw [←hV,Bn,Bm];rfl
  have hB0:V[oid Hp.length 1]? = some (AObj.cells 35 [A5 0]):=by rw [←hV,Bn,Bm];rfl
  have hS0:V[oid Hp.length 2]? = some (AObj.cells 59 [Gb (Bx c l l.length)]):=by rw [←hV,Bn,Bm];rfl
  have hZ0:V[oid Hp.length 3]? = some (AObj.cells 24 [Cj (Cp c l k)]):=by rw [←hV,Bn,Bm];rfl
  refine O5 (pd:=none) (fr:=FR) (sz:=91) (ps:=#[34,35]) (df:=oid Hp.length 4) (asg:=as') (bd:=bd') hL rfl (by decide) (fun d=>?_)
  subst hFR has hbd
  refine Hq [4,5,6,8,34,35] ?_
  have hgm:l.getD (l.length-1-k) V2=m:=by rw [C9,hm];rfl
  have hmo:=h.each m (B0 hm)
  have hmv:=hmvo m (B0 hm)
  have htn:=Ls hst hm
  have hcn:=Fq (c:=c) hm
  have hCo:=Fe hc (fun m hm=>h.each m hm) (l.length-1-k+1)
  have hCi:=Fe hc (fun m hm=>h.each m hm) (l.length-1-k)
  have herr:=hN.err hk
  have hnxt:=hN.next hk (by rw [hgm];exact hmo)
  have htb:Cp c l (k+1)=Mp (colsAt c l (l.length-1-k)) m.take (Tl c l (l.length-1-k) (Cp c l k)).1 (Cp c l k) (colsAt c l (l.length-1-k+1)):=by rw [Cp,hgm]
  have hwe:Tl c l (l.length-1-k) (Cp c l k)=C6 (colsAt c l (l.length-1-k+1)) (Cp c l k) m.back:=by unfold Tl;rw [hgm]
  rw [hwe] at herr hnxt htb
  have htl:(Cp c l k).length=(colsAt c l (l.length-1-k+1)).length:=by rw [hN.len,show l.length-k=l.length-1-k+1 by omega]
  have hik:l.length-1-k<l.length:=by omega
  generalize l.length-1-k=i at *
  refine Z2 ?_;refine A2 [4,5,6,8,9,35] ?_;refine ABg ?_;refine A2 [4,5,6,8,9,10] ?_
  refine ⟨rfl,none,hL,?_⟩
  generalize hbz:(AObj.loop LoopState.busy _ _ _ _ _ _ _)=bz
  have hA:(V.set (oid Hp.length 5) bz)[oid Hp.length 0]? = some (AObj.cells 24 [AV.nil]):=by rw [Dr (Cn (by decide))];exact hA0
  have hB:(V.set (oid Hp.length 5) bz)[oid Hp.length 1]? = some (AObj.cells 35 [A5 0]):=by rw [Dr (Cn (by decide))];exact hB0
  have hS:(V.set (oid Hp.length 5) bz)[oid Hp.length 2]? = some (AObj.cells 59 [Gb (Bx c l l.length)]):=by rw [Dr (Cn (by decide))];exact hS0
  have hZ:(V.set (oid Hp.length 5) bz)[oid Hp.length 3]? = some (AObj.cells 24 [Cj (Cp c l k)]):=by rw [Dr (Cn (by decide))];exact hZ0
  refine Jk ?_;refine De [0,1,0,0,8,28,60,0,255,511,1023,1023,2047,8191] 13 An (by kernel_rfl) ?_;refine Z11 ?_
  refine Al (h:=Ca hS) (hr:=?_)
  refine Z11 ?_
  refine Al (h:=Ac ((i+1)) (Am (colsAt c l (i+1))) (fun _=>We (Gk (by omega)))) (hr:=?_)
  refine Al ?_
  refine Al (h:=Ca hZ) (hr:=?_)
  refine E1 Tryz.call65 (c65 m.back hmo.back.len hmo.back.ok (colsAt c l (i+1)) hCo (Cp c l k) (by have:=hCo.len;omega) hN.ok.ok _) ?_
  refine Z84 ?_;refine jv ?_;refine A2 [4,5,6,8,9,10,11,12] ?_;refine Z8 ?_;refine A2 [4,5,6,8,9,10,11,12,49] ?_
  refine A3 (fun ht49=>?_) (fun ht49=>?_)
  ·have herr:=herr ht49
   refine Z2 ?_
   refine Fu jS hA ?_ ?_
   ·simp
   refine Fu jS (b6 hB (Cn (by decide))) ?_ ?_
   ·simp
   refine ABf ?_;refine K.blR ?_
   subst hbz
   refine AJ7 ?_
   refine .inr ⟨rfl,Hp++[AObj.cells 24 [AV.nil],AObj.cells 35 [A5 (C6 (colsAt c l (i+1)) (Cp c l k) m.back).2],AObj.cells 59 [Gb (Bx c l l.length)],AObj.cells 24 [Cj (Cp c l k)],AObj.defs,_],?_,by simp,(fun x hx=>by rw [Ai];exact hOl (lp:=_) (by exact ⟨hFRl,by simp [oid]⟩) x hx),.inr ⟨_,_,rfl,by rw [Tm (by simpa using ht24)];exact herr⟩⟩
   subst hV
   simp only [Bn,Gf,Et,Ec,List.set_cons_succ,List.set_cons_zero]
  have hB1:=hnxt ht49
  have hwl:(C6 (colsAt c l (i+1)) (Cp c l k) m.back).1.length=m.take.length:=(Ml m.back (by simpa using ht49)).trans (Fx (Kl hmv)).2
  refine Lm ?_;refine A2 [6,8,9,10,11,13] ?_;refine Z67 ?_;refine N7 13 6 ?_
  refine A4 (h:=Ca hS) (hr:=?_)
  refine A4 ?_
  refine A4 (h:=Ac (i) (Am (colsAt c l i)) (fun _=>We (Gk (by omega)))) (hr:=?_)
  refine Z22 ?_;refine AFv ?_
  refine B7 (α:=Nat) (fun z=>⟨91,A7 6 (.ptr (oid Hp.length 2) 0) (A7 8 (.ptr (oid Hp.length 3) 0) (A7 9 (A5 (i:Nat)) (A7 10 (.ptr (oid V.length 0) 0) (A7 11 (Cj (C6 (colsAt c l (i+1)) (Cp c l k) m.back).1) (A7 13 (.slice true 6 (((Mp (colsAt c l i) m.take (C6 (colsAt c l (i+1)) (Cp c l k) m.back).1 (Cp c l k) (colsAt c l (i+1))).take z).map A9)) (A7 54 (Am (colsAt c l i)) (A7 55 (A5 ((colsAt c l i).length:Nat)) (A7 56 (A5 (z:Nat)) (fun _=>.any))))))))),(V.set (oid Hp.length 5) bz),[AObj.cells 48 (J6 m)],[],some _⟩) (fun z=>z≤(colsAt c l i).length) (fun z=>(colsAt c l i).length-z) (0) (Ar _) (Bo (by simp<;>rfl)) rfl (fun z hz=>?_)
  refine Z2 ?_;refine A2 [6,8,9,10,11,13,54,55,56,57] ?_
  refine Dm (fun ht57=>?_) (fun ht57=>?_)
  ·have hz2:z<(colsAt c l i).length:=by simpa using ht57
   have hnl:((Mp (colsAt c l i) m.take (C6 (colsAt c l (i+1)) (Cp c l k) m.back).1 (Cp c l k) (colsAt c l (i+1))).take z).length≤z:=List.length_take_le _ _
   have hcl:=hCi.len
   refine Qr ?_
   refine A4 (h:=Ac (z) (Bq (colsAt c l i)[z]) (fun _=>Ax hz2)) (hr:=?_)
   refine Rn ?_;refine A2 [6,8,9,10,11,13,15,54,55,56] ?_;refine Z60 ?_;refine Aa Tryz.call70 (c70 m.take (colsAt c l i)[z].name hmo.takes _) ?_;refine A4 ?_;refine A2 [6,8,9,10,11,13,15,16,54,55,56] ?_;refine Z1 ?_;refine A2 [6,8,9,10,11,13,15,16,54,55,56,66] ?_
   refine A3 (fun ht66=>?_) (fun ht66=>?_)
   ·obtain ⟨j,hj,hjl⟩:=AKv (by simpa using ht66)
    have hpk:Q8 m.take (C6 (colsAt c l (i+1)) (Cp c l k) m.back).1 (Cp c l k) (colsAt c l (i+1)) (colsAt c l i)[z]=(C6 (colsAt c l (i+1)) (Cp c l k) m.back).1.getD j Ap:=by unfold Q8;rw [if_pos (by rw [hj];omega),hj];rfl
    refine Fp ?_;refine R.moveT ?_;refine Z0 ?_
    refine A4 (h:=Ac (j) (A9 ((C6 (colsAt c l (i+1)) (Cp c l k) m.back).1.getD j Ap)) (fun _=>AOw (by omega))) (hr:=?_)
    refine Z57 ?_
    refine Eu jU Tryz.type26 ?_ ?_ ?_
    ·simp only [Aj,Ai,Aw,Az,Tryz.t26];omega
    ·simp only [Aj,Ai,Aw,Az,Tryz.t26];omega
    refine L1 ?_;refine AFv ?_;refine Z38 ?_;refine K.blE ?_;refine Fh ?_;refine Z12 ?_;refine AMo ?_
    rw [n6 hz2,hpk,By]
    simp only [Bz,Ek,At]
    exact D4 (own:=[AObj.cells 48 (J6 m)]) (fun _=>.refl _) (by repeat (first|exact Be|refine Bd (by first|(simp [oid,or_imp,forall_and];done)|exact Ce|exact Mk|exact Ok|exact D8|(simp [oid,←hV];done)|(simp [oid,←hV];omega)) ?_)) (by intro x hx;rw [Bl.1 hx];exact Ju) (by simp)
   have hjn:¬0≤Jp (colsAt c l i)[z].name m.take:=by simpa using ht66
   obtain ⟨j,hj,hjl⟩:=AOv htn (B1 hz2) hjn
   rw [←hcn] at hj hjl
   have hpk:Q8 m.take (C6 (colsAt c l (i+1)) (Cp c l k) m.back).1 (Cp c l k) (colsAt c l (i+1)) (colsAt c l i)[z]=(Cp c l k).getD j Ap:=by unfold Q8;rw [if_neg hjn,hj];rfl
   refine Z5 ?_;refine Xe [0,0,0,0,8,28,60,0,128,508,1022,2046,4094,8191,16383] [] [.s [13,74] none [] [],.q 12 [] []] (fun _=>(V.set (oid Hp.length 5) bz)) (fun _=>[AObj.cells 48 (J6 m),AObj.cells 41 [Ae (colsAt c l i)[z].name,A5 (colsAt c l i)[z].kind]]) An (by kernel_rfl) rfl rfl (fun _=>rfl) ?_;refine Y.moveT ?_
   apply Y.q
   ·intro B hT hF
    refine Al (h:=Ca hZ) (hr:=?_)
    refine Al (h:=Ca hS) (hr:=?_)
    refine Z11 ?_
    refine Al (h:=Ac ((i+1)) (Am (colsAt c l (i+1))) (fun _=>We (Gk (by omega)))) (hr:=?_)
    refine Z40 ?_;refine E1 Tryz.call58 (c58 (colsAt c l (i+1)) hCo (colsAt c l i)[z].name _) ?_
    refine Al (h:=Ac (j) (A9 ((Cp c l k).getD j Ap)) (fun _=>AOw (by omega))) (hr:=?_)
    exact AB7
   case hTF=>decide
   refine Ha (tn:=[])  ?_
   refine Eu jU Tryz.type26 ?_ ?_ ?_
   ·simp only [Aj,Ai,Aw,Az,Tryz.t26];omega
   ·simp only [Aj,Ai,Aw,Az,Tryz.t26];omega
   refine L1 ?_;refine AFv ?_;refine Qv ?_;refine AMo ?_
   rw [n6 hz2,hpk,By]
   simp only [Bz,Ek,At]
   exact D4 (own:=[AObj.cells 48 (J6 m)]) (fun _=>.refl _) (by repeat (first|exact Be|refine Bd (by first|(simp [oid,or_imp,forall_and];done)|exact Ce|exact Mk|exact Ok|exact D8|(simp [oid,←hV];done)|(simp [oid,←hV];omega)) ?_)) (by intro x hx;rw [Bl.1 hx];exact Ju) (by simp)
  have hze:(colsAt c l i).length≤z:=by simpa using ht57
  refine Z28 ?_;refine Z66 ?_
  refine Fu jS hZ ?_ ?_
  ·exact n7
  refine Z78 ?_
  subst hbz
  refine AFq ?_
  refine .inl ⟨rfl,hB1,?_⟩
  subst hV
  simp only [Bn,Gf,Et,Ec,List.set_cons_succ,List.set_cons_zero]
  rw [htb,E8 (by rw [Mp,Aj];exact hze)]
 rintro r H' (⟨t,rfl,hrun⟩|⟨e,t,rfl,hrun⟩)
 ·refine ⟨Hp,_,_,_,rfl,rfl,fun h=>h,?_,rfl,by simp,?_⟩
  ·intro o ho
   have:o=oid Hp.length 4:=by simpa using ho
   subst this
   rw [Bm]
   rfl
  refine Z10 ?_;refine Z2 ?_;refine AF7 ?_;refine Z9 ?_;exact A8 (Ay (Gv jA) (Gv jA)) ⟨by rw [hrun],rfl⟩ (hlow:=by simp only [Qg,B5,El,or_false];rintro y (rfl|rfl);exact Ce;simp)
 refine ⟨Hp,_,_,_,rfl,rfl,fun h=>h,?_,rfl,by simp,?_⟩
 ·intro o ho
  have:o=oid Hp.length 4:=by simpa using ho
  subst this
  rw [Bm]
  rfl
 refine W.nilOwn 0 6 ?_;refine Gn ?_;exact ALm

theorem V3 {take:List Str}:∀{c:List Col} {l:List Expr},Ea take c l=((c.zip l).filter fun p => !take.contains p.1.name).map (·.2)
 | [],[]=>rfl
 | [],_::_=>rfl
 | _::_,[]=>rfl
 | y::c,x::l=>by
  rw [Ea,List.zip_cons_cons,L6]
  cases h:take.contains y.name with
  | true=>simp only [Il,Aq,if_false,if_true];exact V3
  | false=>simp only [Tq,Aq,if_false,if_true,Bz];rw [V3]
theorem dw {take:List Str}:∀{c:List Col} {l:List Expr},c.length=l.length→D6 c take=((c.zip l).filter fun p => !take.contains p.1.name).map (·.1)
 | [],[],_=>rfl
 | [],_::_,h=>by simp at h
 | _::_,[],h=>by simp at h
 | y::c,x::l,h=>by
  have ih:=dw (take:=take) (c:=c) (l:=l) (by simpa using h)
  unfold D6 at ih ⊢
  rw [List.zip_cons_cons,L6,L6]
  cases h:take.contains y.name with
  | true=>simp only [Il,Aq,if_false];exact ih
  | false=>simp only [Tq,if_true,Bz];rw [ih]
/-! The trees of all columns ahead, from the last move to the first. -/
theorem sb {c:List Col} {m:Mov} {r:List Mov} (h:(Dg c (m::r)).2=0):(C1 c m).2=0∧(Dg (C1 c m).1 r).2=0:=by
 unfold Dg at h
 split at h
 ·rename_i h1;exact absurd h (by simpa using h1)
 rename_i h1;exact ⟨by simpa using h1,h⟩
/-! Trees put in the columns' places keep the kinds, or are of none. -/
def Le0 (a b:Int):Prop:=a=b∨a=0
def LeL:List Int→List Int→Prop
 | [],[]=>True
 | a::r,b::s=>Le0 a b∧LeL r s
 | _,_=>False
theorem vi {c c' k k':Int} (hc:Le0 c' c) (hk:Le0 k' k) (h:(Fa c k).2=true):(Fa c' k').2=true∧Le0 (Fa c' k').1 (Fa c k).1:=by
 unfold Le0 at *
 unfold Fa at *
 simp only [beq_iff_eq,Dq] at *
 repeat' split
 all_goals simp_all
 all_goals omega
theorem Wv:∀{ws ks ks':List Int} {c c' m:Int},LeL ks' ks→Le0 c' c→Gr ws ks c=some m→∃m',Gr ws ks' c'=some m'∧Le0 m' m
 | ws,[],[],c,c',m,_,hc,h=>by
  have e:∀z,Gr ws [] z=some z:=fun z=>by cases ws<;>rfl
  rw [e] at h
  injection h with h
  exact ⟨c',e c',h ▸ hc⟩
 | _,[],_::_,_,_,_,hl,_,_=>hl.elim
 | _,_::_,[],_,_,_,hl,_,_=>hl.elim
 | [],_::_,_::_,_,_,_,_,_,h=>by cases h
 | w::ws,k::ks,k'::ks',c,c',m,hl,hc,h=>by
  rw [Gr] at h ⊢
  cases hw2:w == -2 with
  | true =>
   rw [hw2,if_pos rfl] at h
   rw [if_pos rfl]
   exact Wv hl.2 hc h
  | false =>
   rw [hw2,if_neg (by simp)] at h
   rw [if_neg (by simp)]
   cases hw1:w == -1 with
   | true =>
    rw [hw1,if_pos rfl] at h
    rw [if_pos rfl]
    cases hm:(Fa c k).2 with
    | false=>rw [hm] at h;cases h
    | true =>
     rw [hm,if_pos rfl] at h
     have:=vi hc hl.1 hm
     rw [this.1,if_pos rfl]
     exact Wv hl.2 this.2 h
   | false =>
    rw [hw1,if_neg (by simp)] at h
    rw [if_neg (by simp)]
    cases hm:(Fa w k).2 with
    | false=>rw [hm] at h;cases h
    | true =>
     rw [hm,if_pos rfl] at h
     have:=vi (.inl rfl:Le0 w w) hl.1 hm
     rw [this.1,if_pos rfl]
     exact Wv hl.2 hc h
theorem sc {l:List (Int×Int)} (h:∀q∈l,q.2=0):l.find? (fun q=>q.2 != 0)=none:=M2.2 fun q hq=>by simpa using h q hq
theorem n8 {c:List Col} {o:Int} {t:Str} {v:Val} {ks:List (Int×Int)} (h1:(o==1)=false) (h2:(o==2)=false) (h:∀q∈ks,q.2=0):Np c o t v ks=J3 (Jr o t) (ks.map (·.1)):=by
 unfold Np
 rw [h1,h2,sc h]
 rfl
theorem AI3 {s:Sign} {ks ks':List Int} (hl:LeL ks' ks) (h:(J3 s ks).2=0):(J3 s ks').2=0∧Le0 (J3 s ks').1 (J3 s ks).1:=by
 unfold J3 at h ⊢
 cases hk:Gr s.kids ks 0 with
 | none=>rw [hk] at h;cases h
 | some m =>
  obtain ⟨m',e,hm⟩:=Wv hl (.inl rfl) hk
  rw [e]
  simp only
  split
  ·exact ⟨rfl,hm⟩
  exact ⟨rfl,.inl rfl⟩
mutual
theorem n9 {c c0:List Col} {t:List Expr} (H:∀s,(Ih c s).2=0→(Bf c0 (t.getD (B6 s c).toNat Ap)).2=0∧Le0 (Bf c0 (t.getD (B6 s c).toNat Ap)).1 (Ih c s).1):∀x:Expr,Dw Dl x=true→(Bf c x).2=0→∃y,putF c t x=some y∧(Bf c0 y).2=0∧Le0 (Bf c0 y).1 (Bf c x).1
 | .mk o s v k,hn,h=>by
  rw [Gg,As] at hn
  by_cases h1:(o==1)=true
  ·have ho:o=1:=by simpa using h1
   subst ho
   have hk:k=[]:=by
    have:=hn.1
    unfold Dl at this
    rw [if_pos (show ((Expr.mk 1 s v k).op==1)=true from rfl),As] at this
    have h3:((k.length:Int)==0)=true:=this.2
    simpa using h3
   subst hk
   exact ⟨.mk 1 s v [],rfl,rfl,.inl rfl⟩
  have h1':(o==1)=false:=by simpa using h1
  by_cases h2:(o==2)=true
  ·have e:Bf c (.mk o s v k)=Ih c s:=by rw [Bf];unfold Np;rw [if_neg h1,if_pos h2]
   rw [e] at h ⊢
   rw [putF,if_pos h2]
   have hf:¬B6 s c<0:=fun hf=>by unfold Ih at h;rw [if_pos hf] at h;cases h
   rw [if_neg hf]
   exact ⟨_,rfl,H s h⟩
  have h2':(o==2)=false:=by simpa using h2
  rw [Bf] at h ⊢
  have hk:=l9 h h1' h2'
  obtain ⟨r,hr,hr2,hr3⟩:=dx H k ((E3 _ _).1 hn.2) hk
  rw [n8 h1' h2' hk] at h ⊢
  refine ⟨.mk o s v r,by rw [putF,if_neg h2,hr];rfl,?_⟩
  rw [Bf,n8 h1' h2' hr2]
  exact AI3 hr3 h
theorem dx {c c0:List Col} {t:List Expr} (H:∀s,(Ih c s).2=0→(Bf c0 (t.getD (B6 s c).toNat Ap)).2=0∧Le0 (Bf c0 (t.getD (B6 s c).toNat Ap)).1 (Ih c s).1):∀l:List Expr,(∀e∈l,Dw Dl e=true)→(∀q∈Nq c l,q.2=0)→∃r,Ja c t l=some r∧(∀q∈Nq c0 r,q.2=0)∧LeL ((Nq c0 r).map (·.1)) ((Nq c l).map (·.1))
  | [],_,_=>⟨[],rfl,fun q hq=>by simp [Nq] at hq,trivial⟩
  | e::l,hn,h=>by
    rw [Nq] at h
    obtain ⟨y,h1,h2,h3⟩:=n9 H e (hn e Hu) (h _ Hu)
    obtain ⟨r,h4,h5,h6⟩:=dx H l (fun x hx=>hn x (.tail _ hx)) (fun q hq=>h q (.tail _ hq))
    refine ⟨y::r,by rw [Ja,h1,h4];rfl,fun q hq=>?_,?_⟩
    · rw [Nq] at hq
      rcases B5.1 hq with rfl|hq
      · exact h2
      exact h5 q hq
    rw [Nq,Nq]
    exact ⟨h3,h6⟩
 end
/-- A tree that is of a column's kind, or of none. -/
structure FitX (c0:List Col) (e:Expr) (w:Int):Prop where
 right:B3 e=true
 err:(Bf c0 e).2=0
 kind:Le0 (Bf c0 e).1 w
/-- Trees for columns, each of its column's kind. -/
structure FitT (c0 c:List Col) (t:List Expr):Prop where
 len:t.length=c.length
 each:∀p∈c.zip t,FitX c0 p.2 p.1.kind
theorem FitT.at {c0 c:List Col} {t:List Expr} (h:FitT c0 c t) {i:Nat} {y:Col} {e:Expr} (hy:c[i]? = some y) (he:t[i]? = some e):FitX c0 e y.kind:=
 h.each (y,e) (B0 (i:=i) (Ny.2 ⟨hy,he⟩))
theorem FitT.rights {c0 c:List Col} {t:List Expr} (h:FitT c0 c t):∀e∈t,B3 e=true:=fun e he=>by
 obtain ⟨i,hi⟩:=Cm he
 have hil:=(Ad.1 hi).1
 exact (h.at (Ab (by rw [←h.len];exact hil)) hi).right
theorem FitT.name {c0 c:List Col} {t:List Expr} (h:FitT c0 c t) (s:Str) (hs:(Ih c s).2=0):(Bf c0 (t.getD (B6 s c).toNat Ap)).2=0∧Le0 (Bf c0 (t.getD (B6 s c).toNat Ap)).1 (Ih c s).1:=by
 have hf:¬B6 s c<0:=fun hf=>by unfold Ih at hs;rw [if_pos hf] at hs;cases hs
 obtain ⟨j,y,hj,_,e⟩:=find_mem.1 hf
 have hjl:=(Ad.1 hj).1
 unfold Ih
 rw [if_neg hf,e,Int.toNat_natCast,C9,Ab (by rw [h.len];exact hjl),C9,hj]
 have:=h.at hj (Ab (by rw [h.len];exact hjl))
 exact ⟨this.err,this.kind⟩
theorem FitT.app {c0 c d:List Col} {t u:List Expr} (h:FitT c0 c t) (h2:FitT c0 d u):FitT c0 (c++d) (t++u):=by
 refine ⟨by rw [Ai,Ai,h.len,h2.len],?_⟩
 rw [List.zip_append h.len.symm]
 intro p hp
 rcases E7.1 hp with hp|hp
 ·exact h.each p hp
 exact h2.each p hp
theorem FitT.own {c:List Col} (h:Ct c=true):FitT c c (Iv c):=by
 obtain ⟨_,hok,hnd⟩:=l6 (by rw [Nn];exact h)
 refine ⟨by simp [Iv],fun p hp=>?_⟩
 obtain ⟨i,hi⟩:=Cm hp
 rw [Ny] at hi
 obtain ⟨h1,h2⟩:=hi
 unfold Iv at h2
 rw [Cf,h1] at h2
 injection h2 with h2
 have hy:=B0 h1
 rw [←h2]
 have e:Bf c (Cw p.1.name)=(p.1.kind,0):=by rw [Pv];exact qy hnd hy rfl
 exact ⟨by rw [Rw,←Fw];exact (hok _ hy).name,by rw [e],by rw [e];exact .inl rfl⟩
theorem AKw {x:Expr} {c:List Col} {w:Int} (h:¬(Mh x c w != 0)=true):FitX c x w:=by
 have h0:Mh x c w=0:=by simpa using h
 unfold Mh at h0
 split at h0
 ·rename_i h1;exact absurd h0 (by simpa using h1)
 rename_i h1
 have h2:(F4 x c).2=0:=by simpa using h1
 obtain ⟨h3,_,h4⟩:=mh h2
 split at h0
 ·cases h0
 rename_i h5
 have h6:R6 x c w=true:=by simpa using h5
 unfold R6 at h6
 rw [h4] at h6 h2
 simp only [As,Dq,beq_iff_eq] at h6
 exact ⟨h3,h6.1,h6.2⟩
theorem vj {c:List Col}:∀{l:List Expr} {ws:List Col},Ck c l ws=0→∀p∈ws.zip l,FitX c p.2 p.1.kind
 | [],ws,_,p,hp=>by simp at hp
 | x::l,[],_,p,hp=>by simp at hp
 | x::l,w::ws,h,p,hp=>by
  rw [Ck] at h
  split at h
  ·rename_i h1;exact absurd h (by simpa using h1)
  rename_i h1
  rw [List.zip_cons_cons] at hp
  rcases B5.1 hp with rfl|hp
  ·exact AKw h1
  exact vj h p hp
/-- A tree over trees that fit. -/
theorem AEo {c0 c:List Col} {t:List Expr} {x:Expr} {w:Int} (hc:Ct c=true) (ht:FitT c0 c t) (hx:FitX c x w):((Fj x c t).2=0∨(Fj x c t).2=3)∧((Fj x c t).2=0→FitX c0 (Fj x c t).1 w):=by
 have hcm:Hw c=true:=by unfold Ct at hc;simp only [As] at hc;exact hc.2
 have h0:((((!(B3 x)) || t.any Gz) || !(Nm c)) || ((c.length:Int) != (t.length:Int)))=false:=by
  rw [hx.right,Lq,hcm,ht.len]
  simp only [Il,B4,K6,bne_self_eq_false]
  rw [L4]
  intro e he
  unfold Gz
  rw [ht.rights e he]
  simp
 obtain ⟨y,hy,hk,hle⟩:=n9 ht.name x (Mm (by rw [←F8];exact hx.right)) hx.err
 rw [ADh h0,hy]
 simp only
 split
 ·rename_i hr
  refine ⟨.inl rfl,fun _=>⟨hr,hk,?_⟩⟩
  have:=hx.kind
  unfold Le0 at hle this ⊢
  rcases hle with h|h
  ·rw [h];exact this
  exact .inr h
 exact ⟨.inr rfl,fun h=>absurd (show (3:Int)=0 from h) (by decide)⟩
theorem dy {c0 c:List Col} {t:List Expr} (hc:Ct c=true) (ht:FitT c0 c t):∀{l:List Expr} {ws:List Col},l.length=ws.length→(∀p∈ws.zip l,FitX c p.2 p.1.kind)→((C6 c t l).2=0∨(C6 c t l).2=3)∧((C6 c t l).2=0→FitT c0 ws (C6 c t l).1)
 | [],[],_,_=>⟨.inl rfl,fun _=>⟨rfl,fun p hp=>by simp at hp⟩⟩
 | [],_::_,h,_=>by simp at h
 | _::_,[],h,_=>by simp at h
 | x::l,w::ws,hl,h=>by
  have h1:=AEo hc ht (h (w,x) (by simp))
  have h2:=dy hc ht (l:=l) (ws:=ws) (by simpa using hl) (fun p hp=>h p (by rw [List.zip_cons_cons];exact .tail _ hp))
  unfold C6
  split
  ·rename_i h3
   refine ⟨h1.1,fun e=>absurd e (by simpa using h3)⟩
  rename_i h3
  split
  ·rename_i h4
   exact ⟨h2.1,fun e=>absurd e (by simpa using h4)⟩
  rename_i h4
  refine ⟨.inl rfl,fun _=>?_⟩
  have a:=h1.2 (by simpa using h3)
  have b:=h2.2 (by simpa using h4)
  refine ⟨by simp [b.len],fun p hp=>?_⟩
  rw [List.zip_cons_cons] at hp
  rcases B5.1 hp with rfl|hp
  ·exact a
  exact b.each p hp
theorem AEp {c0 c:List Col} {t:List Expr} {take:List Str} (h:FitT c0 c t):FitT c0 (D6 c take) (Ea take c t):=by
 refine ⟨Km h.len.symm,fun p hp=>?_⟩
 rw [dw h.len.symm,V3] at hp
 obtain ⟨i,hi⟩:=Cm hp
 rw [Ny,Cf,Cf] at hi
 cases hz:((c.zip t).filter fun p => !take.contains p.1.name)[i]? with
 | none=>rw [hz] at hi;cases hi.1
 | some q =>
  rw [hz] at hi
  have h1:q.1=p.1:=Option.some.inj hi.1
  have h2:q.2=p.2:=Option.some.inj hi.2
  rw [←h1,←h2]
  exact h.each q (Se.1 (B0 hz)).1
theorem AA0 {c:List Col} {m:Mov} (h:(C1 c m).2=0):Ck c m.ahead (B8 c m)=0∧Ck (C1 c m).1 m.back (Gx c m)=0:=by
 unfold C1 at h ⊢
 split at h
 ·rename_i h1;exact absurd h (by simpa using h1)
 rename_i h1
 rw [if_neg h1]
 split at h
 ·rename_i h2;exact absurd h (by simpa using h2)
 rename_i h2
 rw [if_neg h2]
 split at h
 ·rename_i h3;exact absurd h (by simpa using h3)
 rename_i h3
 rw [if_neg h3]
 exact ⟨by simpa using h2,by simpa using h3⟩
theorem Vx {c:List Col} {m:Mov} {r:List Mov}:∀k,colsAt c (m::r) (k+1)=colsAt (C1 c m).1 r k
 | 0=>rfl
 | k+1=>by rw [colsAt,Vx k,colsAt];rfl
theorem sd {c:List Col} {m:Mov} {r:List Mov}:colsAt c (m::r) (m::r).length=colsAt (C1 c m).1 r r.length:=Vx _
theorem dz {c0:List Col}:∀(ms:List Mov) (c:List Col) (t:List Expr),Ct c=true→(∀m∈ms,Gj m=true)→(Dg c ms).2=0→FitT c0 c t→((H0 c t ms).2=0∨(H0 c t ms).2=3)∧((H0 c t ms).2=0→FitT c0 (colsAt c ms ms.length) (H0 c t ms).1)
 | [],c,t,_,_,_,ht=>⟨.inl rfl,fun _=>ht⟩
 | m::r,c,t,hc,hv,hs,ht=>by
  have h2:=sb hs
  have h3:=Mn h2.1
  have h4:=AA0 h2.1
  have h5:=Fx (Kl (hv m Hu))
  have h6:=dy hc ht (l:=m.ahead) (ws:=B8 c m) (by rw [Ie];exact h5.1) (vj h4.1)
  unfold H0
  split
  ·rename_i h7
   exact ⟨h6.1,fun e=>absurd e (by simpa using h7)⟩
  rename_i h7
  rw [sd]
  exact dz r _ _ h3.2.2 (fun x hx=>hv x (.tail _ hx)) h2.2 (by rw [h3.1];exact (AEp ht).app (h6.2 (by simpa using h7)))
/-! FuseForth: one tree does all moves. -/
theorem se {f:Int→Str→List Val→Rs} {c c0:List Col} {l l0:List Val} {o:Int} {t:Str} {v:Val} {ks:List Rs} (h:(o==2)=false):K4 f c0 l0 o t v ks=K4 f c l o t v ks:=by
 unfold K4
 rw [h]
 rfl
mutual
theorem ea {c c0:List Col} {t:List Expr} {l l0:List Val} (H:∀s,¬B6 s c<0→Cb c0 l0 (t.getD (B6 s c).toNat Ap)=(l.getD (B6 s c).toNat noV,0)):∀x y:Expr,putF c t x=some y→Cb c0 l0 y=Cb c l x
 | .mk o s v k,y,h=>by
  rw [putF] at h
  by_cases h2:(o==2)=true
  ·rw [if_pos h2] at h
   have ho:o=2:=by simpa using h2
   subst ho
   split at h
   ·cases h
   rename_i hf
   injection h with h
   subst h
   rw [H s hf]
   show _=Fb B9 c l _
   rw [Nu]
   show _=L3 c l s
   unfold L3
   rw [if_neg hf]
  have h2':(o==2)=false:=by simpa using h2
  rw [if_neg h2] at h
  cases hk:Ja c t k with
  | none=>rw [hk] at h;cases h
  | some r =>
   rw [hk] at h
   injection h with h
   subst h
   show Fb B9 c0 l0 _=Fb B9 c l _
   rw [Nu,Nu]
   show K4 B9 c0 l0 o s v (r.map _)=K4 B9 c l o s v (k.map _)
   rw [Zv H k r hk,se (c:=c) (l:=l) h2']
theorem Zv {c c0:List Col} {t:List Expr} {l l0:List Val} (H:∀s,¬B6 s c<0→Cb c0 l0 (t.getD (B6 s c).toNat Ap)=(l.getD (B6 s c).toNat noV,0)):∀k r:List Expr,Ja c t k=some r→r.map (Fb B9 c0 l0)=k.map (Fb B9 c l)
  | [],r,h=>by
    rw [Ja] at h
    injection h with h
    subst h
    rfl
  | e::k,r,h=>by
    rw [Ja] at h
    cases h1:putF c t e with
    | none=>rw [h1] at h;cases h
    | some y =>
      rw [h1] at h
      cases h2:Ja c t k with
      | none=>simp only [h2] at h;cases h
      | some s =>
        simp only [h2] at h
        injection h with h
        subst h
        rw [Bz,Bz,Zv H k s h2]
        exact congrArg (·::_) (ea H e y h1)
 end
/-- Trees that come, over a row, to the values of another one. -/
structure Comes (c0:List Col) (l0:List Val) (t:List Expr) (r:List Val):Prop where
 len:t.length=r.length
 each:∀(j:Nat) (e:Expr) (v:Val),t[j]? = some e→r[j]? = some v→En e c0 l0=(v,0)
theorem Comes.name {c0 c:List Col} {l0 r:List Val} {t:List Expr} (h:Comes c0 l0 t r) (hl:r.length=c.length) (s:Str) (hs:¬B6 s c<0):Cb c0 l0 (t.getD (B6 s c).toNat Ap)=(r.getD (B6 s c).toNat noV,0):=by
 obtain ⟨j,hj,hjl⟩:=Hh hs
 have ht:=h.len
 have h1:t[j]? = some (t.getD j Ap):=by rw [C9,Ab (by omega)];rfl
 have h2:r[j]? = some (r.getD j noV):=by rw [C9,Ab (by omega)];rfl
 have:=h.each j _ _ h1 h2
 rw [hj,Int.toNat_natCast,←(sa (by rw [this])).2.2,this]
/-- A tree over trees comes to what the tree comes to over their values. -/
theorem Comes.over {c0 c:List Col} {l0 r:List Val} {t:List Expr} (h:Comes c0 l0 t r) (hl:r.length=c.length) (h0:Gs c0 l0=true) {x:Expr} (ho:(Fj x c t).2=0) (hx:(En x c r).2=0):En (Fj x c t).1 c0 l0=En x c r:=by
 obtain ⟨_,_,e⟩:=sa hx
 unfold Fj at ho ⊢
 split at ho
 ·cases ho
 rename_i h1
 rw [if_neg h1]
 cases hp:putF c t x with
 | none=>rw [hp] at ho;cases ho
 | some y =>
  rw [hp] at ho
  simp only at ho ⊢
  split at ho
  ·rename_i hr
   rw [if_pos hr,AEm hr h0,e]
   exact ea (h.name hl) x y hp
  cases ho
theorem Comes.overs {c0 c:List Col} {l0 r:List Val} {t:List Expr} (h:Comes c0 l0 t r) (hl:r.length=c.length) (h0:Gs c0 l0=true):∀{l:List Expr},(C6 c t l).2=0→(Ba c r l).2=0→Comes c0 l0 (C6 c t l).1 (Ba c r l).1
 | [],_,_=>⟨rfl,fun j e v h1=>by cases h1⟩
 | x::l,ho,hr=>by
  rw [C6] at ho ⊢
  rw [Ba] at hr ⊢
  by_cases a1:((Fj x c t).2 != 0)=true
  ·rw [if_pos a1] at ho
   rw [show (Fj x c t).2=0 from ho] at a1
   cases a1
  rw [if_neg a1] at ho ⊢
  by_cases a2:((C6 c t l).2 != 0)=true
  ·rw [if_pos a2] at ho
   rw [show (C6 c t l).2=0 from ho] at a2
   cases a2
  rw [if_neg a2]
  by_cases b1:((En x c r).2 != 0)=true
  ·rw [if_pos b1] at hr
   rw [show (En x c r).2=0 from hr] at b1
   cases b1
  rw [if_neg b1] at hr ⊢
  by_cases b2:((Ba c r l).2 != 0)=true
  ·rw [if_pos b2] at hr
   rw [show (Ba c r l).2=0 from hr] at b2
   cases b2
  rw [if_neg b2]
  have ih:=h.overs hl h0 (l:=l) (by simpa using a2) (by simpa using b2)
  refine ⟨by simp [ih.len],fun j e v h1 h2=>?_⟩
  cases j with
  | zero =>
   have e1:(Fj x c t).1=e:=by simpa using h1
   have e2:(En x c r).1=v:=by simpa using h2
   have hx:(En x c r).2=0:=by simpa using b1
   rw [←e1,h.over hl h0 (by simpa using a1) hx]
   exact Mw e2 hx
  | succ j=>exact ih.each j e v (by simpa using h1) (by simpa using h2)
theorem eb {take:List Str}:∀{c:List Col} {t:List Expr} {r:List Val},t.length=c.length→r.length=c.length→∀(j:Nat) (e:Expr) (v:Val),(Ea take c t)[j]? = some e→(G7 take c r)[j]? = some v→∃i:Nat,t[i]? = some e∧r[i]? = some v
 | [],[],[],_,_,j,e,v,h,_=>by simp [Ea] at h
 | [],_::_,_,h,_,_,_,_,_,_=>by simp at h
 | [],_,_::_,_,h,_,_,_,_,_=>by simp at h
 | _::_,[],_,h,_,_,_,_,_,_=>by simp at h
 | _::_,_::_,[],_,h,_,_,_,_,_=>by simp at h
 | a::c,b::t,d::r,ht,hr,j,e,v,h1,h2=>by
  have ih:=eb (take:=take) (c:=c) (t:=t) (r:=r) (by simpa using ht) (by simpa using hr)
  unfold Ea at h1
  unfold G7 at h2
  rw [List.zip_cons_cons,L6] at h2
  by_cases hc:take.contains a.name=true
  ·rw [if_pos hc] at h1
   rw [if_neg (by rw [hc];simp)] at h2
   obtain ⟨i,e1,e2⟩:=ih j e v h1 (by unfold G7;exact h2)
   exact ⟨i+1,by simpa using e1,by simpa using e2⟩
  rw [if_neg hc] at h1
  rw [if_pos (by simpa using hc)] at h2
  cases j with
  | zero=>exact ⟨0,by simpa using h1,by simpa using h2⟩
  | succ j =>
   obtain ⟨i,e1,e2⟩:=ih j e v (by simpa using h1) (by unfold G7;simpa using h2)
   exact ⟨i+1,by simpa using e1,by simpa using e2⟩
theorem Comes.app {c0:List Col} {l0 r s:List Val} {t u:List Expr} (h:Comes c0 l0 t r) (h2:Comes c0 l0 u s):Comes c0 l0 (t++u) (r++s):=by
 refine ⟨by simp [h.len,h2.len],fun j e v a b=>?_⟩
 by_cases hj:j<t.length
 ·rw [Di hj] at a
  rw [Di (by rw [←h.len];exact hj)] at b
  exact h.each j e v a b
 rw [Dd (by omega)] at a
 rw [Dd (by rw [←h.len];omega),←h.len] at b
 exact h2.each _ e v a b
theorem Comes.own {c:List Col} {row:List Val} (hc:Ct c=true) (hp:Gs c row=true):Comes c row (Iv c) row:=by
 obtain ⟨_,hok,hnd⟩:=l6 (by rw [Nn];exact hc)
 have hl:row.length=c.length:=by
  unfold Gs at hp
  simp only [As,beq_iff_eq] at hp
  exact hp.1.2
 refine ⟨by simp [Iv,hl],fun j e v h1 h2=>?_⟩
 unfold Iv at h1
 rw [Cf] at h1
 cases hy:c[j]? with
 | none=>rw [hy] at h1;cases h1
 | some y =>
  rw [hy] at h1
  injection h1 with h1
  rw [←h1]
  rw [AEm (by rw [Rw,←Fw];exact (hok _ (B0 hy)).name) hp,AHz]
  unfold L3
  rw [Yh hnd hy,if_neg (by omega),Int.toNat_natCast,C9,h2]
  rfl
theorem AI4 {c:List Col} {ms:List Mov} (hf:(H0 c (Iv c) ms).2=0) {k:Nat} {m:Mov} (hk:ms[k]? = some m) (h:Lc c ms k):(C6 (colsAt c ms k) (Cd c ms k) m.ahead).2=0:=by
 by_cases he:((C6 (colsAt c ms k) (Cd c ms k) m.ahead).2 != 0)=true
 ·rw [rl hk h he] at hf
  rw [show (C6 (colsAt c ms k) (Cd c ms k) m.ahead).2=0 from hf] at he
  cases he
 simpa using he
theorem vk {c:List Col} {l:List Mov} {row:List Val} (h:OkMovs l) (hs:((Cq c l).2 != 0)=false) (hR:RowI c row) (hp:Gs c row=true) (hf:(fwM c l row l.length).2=0) (ht:(H0 c (Iv c) l).2=0):∀k,k≤l.length→Lc c l k∧(fwM c l row k).2=0∧Comes c row (Cd c l k) (fwM c l row k).1
 | 0,_=>by
  obtain ⟨hmay,_,_⟩:=Ep hs
  have hc:Ct c=true:=by unfold Og at hmay;simp only [As] at hmay;exact hmay.1
  exact ⟨AKh,rfl,.own hc hp⟩
 | k+1,hk=>by
  obtain ⟨n,f0,ih⟩:=vk h hs hR hp hf ht k (by omega)
  obtain ⟨m,hm⟩:∃m,l[k]? = some m:=⟨_,Ab (by omega)⟩
  have ho:=AI4 ht hm n
  have f1:(fwM c l row (k+1)).2=0:=Hm fun hn=>by
   by_cases e:k+1=l.length
   ·rw [←e] at hf;exact hn hf
   rw [Zm hn l.length (by omega)] at hf
   exact hn hf
  have e:=Te hm f0
  refine ⟨iy hm n (by rw [ho];rfl),f1,?_⟩
  rw [e] at f1 ⊢
  obtain ⟨g1,g2⟩:=s9 f1
  have hl:=(j6 h hs hR k (by omega) f0).len
  rw [g2,Cd,hm]
  refine Comes.app ⟨?_,fun j e v a b=>?_⟩ (ih.overs hl hp ho g1)
  ·rw [Tb hl,Km (by rw [ih.len,hl])]
  obtain ⟨i,a1,a2⟩:=eb (by rw [ih.len,hl]) hl j e v a b
  exact ih.each i e v a1 a2
theorem BackAt.step {c:List Col} {ms:List Mov} {k:Nat} (h:BackAt c ms k) (hk:k<ms.length) (hf:(Q9 c ms ms.length (Iv (colsAt c ms ms.length))).2=0):(Tl c ms (ms.length-1-k) (Cp c ms k)).2=0:=by
 by_cases he:((Tl c ms (ms.length-1-k) (Cp c ms k)).2 != 0)=true
 ·rw [h.err hk he] at hf
  rw [show (Tl c ms (ms.length-1-k) (Cp c ms k)).2=0 from hf] at he
  cases he
 simpa using he
theorem Comes.get {c0:List Col} {l0 r:List Val} {t:List Expr} (h:Comes c0 l0 t r) {j:Nat} (hj:j<r.length):En (t.getD j Ap) c0 l0=(r.getD j noV,0):=by
 have ht:=h.len
 refine h.each j _ _ ?_ ?_
 ·rw [C9,Ab (by omega)];rfl
 rw [C9,Ab hj];rfl
theorem vl {c:List Col} {l:List Mov} {x:List Val} (hc:OkCols c) (h:OkMovs l) (hs:((Cq c l).2 != 0)=false) (hR:RowI (colsAt c l l.length) x) (hp:Gs (colsAt c l l.length) x=true) (hf:(bkM c l x l.length).2=0) (ht:(Q9 c l l.length (Iv (colsAt c l l.length))).2=0):∀k,k≤l.length→BackAt c l k∧(bkM c l x k).2=0∧Comes (colsAt c l l.length) x (Cp c l k) (bkM c l x k).1
 | 0,_=>by
  obtain ⟨hmay,hst,_⟩:=Ep hs
  have hrc:Ct c=true:=by unfold Og at hmay;simp only [As] at hmay;exact hmay.1
  exact ⟨.zero (Fe hc (fun m hm=>h.each m hm) l.length),rfl,.own (Ta hrc hst _) hp⟩
 | k+1,hk=>by
  obtain ⟨hmay,hst,_⟩:=Ep hs
  obtain ⟨n,f0,ih⟩:=vl hc h hs hR hp hf ht k (by omega)
  obtain ⟨m,hm⟩:∃m,l[l.length-1-k]? = some m:=⟨_,Ab (by omega)⟩
  have hmd:l.getD (l.length-1-k) V2=m:=by rw [C9,hm];rfl
  have hml:=B0 hm
  have hw:=n.step (by omega) ht
  have f1:(bkM c l x (k+1)).2=0:=Hm fun hn=>by
   by_cases e:k+1=l.length
   ·rw [←e] at hf;exact hn hf
   rw [iz hn l.length (by omega)] at hf
   exact hn hf
  have e:=Tf hm f0
  refine ⟨n.next (by omega) (by rw [hmd];exact h.each m hml) (by rw [hw];rfl),f1,?_⟩
  have hB:=s6 h hR k (by omega) f0
  have htn:=Ls hst hm
  have hcn:=Fq (c:=c) hm
  have hrl:=hB.row.len
  rw [show l.length-k=l.length-1-k+1 by omega] at hrl
  rw [e] at f1 ⊢
  rw [Cp,hmd]
  unfold Tl at hw ⊢
  rw [hmd] at hw ⊢
  generalize l.length-1-k=i at *
  unfold D7 at f1 ⊢
  split at f1
  ·rename_i h1
   rw [show (Ba (colsAt c l (i+1)) (bkM c l x k).1 m.back).2=0 from f1] at h1
   cases h1
  rename_i h1
  rw [if_neg h1]
  have h1:(Ba (colsAt c l (i+1)) (bkM c l x k).1 m.back).2=0:=by simpa using h1
  have hov:=ih.overs hrl hp hw h1
  have hbl:=Mo h1
  have hct:=Fx (Kl (If hmay m hml))
  refine ⟨by simp [Mp],fun j e v a b=>?_⟩
  unfold Mp at a
  rw [Cf] at a b
  cases hy:(colsAt c l i)[j]? with
  | none=>rw [hy] at a;cases a
  | some y =>
   rw [hy] at a b
   injection a with a
   injection b with b
   rw [←a,←b]
   unfold Q8 Tc
   by_cases hi:0≤Jp y.name m.take
   ·rw [if_pos hi,if_pos hi]
    obtain ⟨q,hq,hql⟩:=ux hi
    rw [hq,Int.toNat_natCast]
    exact hov.get (by omega)
   rw [if_neg hi,if_neg hi]
   obtain ⟨q,hq,hql⟩:=AE6 htn (B0 hy) hi
   rw [←hcn] at hq hql
   rw [hq,Int.toNat_natCast]
   exact ih.get (by omega)
/-- What the law asks, forth. -/
theorem sg {c:List Col} {l:List Mov} {row:List Val} (h:OkMovs l) (hrr:∀v∈row, -9223372036854775808≤v.n∧v.n≤9223372036854775807) (hf:(Bp c l row).2=0):(((Cq c l).2 != 0)=false∧Gs c row=true∧Gs (colsAt c l l.length) (Bp c l row).1=true∧RowI (colsAt c l l.length) (Bp c l row).1)∧((Fc c l).2=0∨(Fc c l).2=3)∧((Fc c l).2=0→Comes c row (Fc c l).1 (Bp c l row).1):=by
 by_cases h0:(((Cq c l).2 != 0) || !Gs c row)=true
 ·rw [show Bp c l row=([],1) from if_pos h0] at hf
  cases hf
 have h1:((Cq c l).2 != 0)=false∧Gs c row=true:=by simpa using h0
 have hR:=Td h1.2 hrr
 have e:=AEl h1.1 h1.2
 rw [e] at hf
 obtain ⟨hmay,hst,_⟩:=Ep h1.1
 have hrc:Ct c=true:=by unfold Og at hmay;simp only [As] at hmay;exact hmay.1
 have em:Fc c l=H0 c (Iv c) l:=if_neg (by rw [h1.1];simp)
 refine ⟨⟨h1.1,h1.2,?_,?_⟩,?_,fun ht=>?_⟩
 ·rw [e];exact vg h h1.1 hR h1.2 _ (Ak _) hf
 ·rw [e];exact j6 h h1.1 hR _ (Ak _) hf
 ·rw [em];exact (dz l c (Iv c) hrc (If hmay) hst (.own hrc)).1
 rw [em] at ht
 obtain ⟨n,_,g⟩:=vk h h1.1 hR h1.2 hf ht l.length (Ak _)
 rw [em,rm n,e]
 exact g
/-- What it asks back. -/
theorem ec {c:List Col} {l:List Mov} {x:List Val} (hc:OkCols c) (h:OkMovs l) (hs:((Cq c l).2 != 0)=false) (hR:RowI (colsAt c l l.length) x) (hp:Gs (colsAt c l l.length) x=true) (hb:(Dz c l x).2=0) (ht:(Ij c l).2=0):Comes (colsAt c l l.length) x (Ij c l).1 (Dz c l x).1∧TOk (Ij c l).1:=by
 have e:=AHy hs hp
 rw [Tm hs] at ht ⊢
 rw [e] at hb ⊢
 obtain ⟨n,_,g⟩:=vl hc h hs hR hp hb ht l.length (Ak _)
 rw [n.fin]
 exact ⟨g,n.ok⟩
theorem AI5 {c:List Col} {l:List Mov} {row:List Val}:∀k,(fwM c l row k).2≠0→(fwM c l row k).1=[]
 | 0,h=>absurd rfl h
 | k+1,h=>by
  rw [fwM] at h ⊢
  split
  ·rfl
  rename_i h1
  rw [if_neg h1] at h
  split at h
  ·exact AFt
  exact Zn h
theorem sh {c:List Col} {l:List Mov} {row:List Val} (h:(Bp c l row).2≠0):(Bp c l row).1=[]:=by
 unfold Bp at h ⊢
 split
 ·rfl
 rename_i h1
 rw [if_neg h1] at h
 exact AI5 _ h
theorem Comes.okE {c0:List Col} {l0 r:List Val} {t:List Expr} (h:Comes c0 l0 t r) {i:Nat} (hi:i<t.length):okE 30 t[i]:=by
 have hl:=h.len
 have:=h.each i _ _ (Ab hi) (Ab (show i<r.length by omega))
 exact (dc (by rw [←F8];exact (sa (by rw [this])).1)).1
theorem Comes.val {c0:List Col} {l0 r:List Val} {t:List Expr} (h:Comes c0 l0 t r) {i:Nat} (hi:i<t.length) (hi2:i<r.length):En t[i] c0 l0=(r[i],0):=h.each i _ _ (Ab hi) (Ab hi2)
theorem c7 (c:List Col) (l:List Mov) (hrl:∀m∈l,RngMv m) (row:List Val) (hrr:∀v∈row, -9223372036854775808≤v.n∧v.n≤9223372036854775807) (Hp:List AObj):AFun Tryz.prog 7 [Am c,Ew l,Cv row] Hp (Bk true):=by
 refine Af [.tmp 6] [0,1,2] Tryz.func7 Tryz.ntmps7 (fun d=>?_)
 refine Z2 ?_;refine Wb ?_;refine Z67 ?_;refine Aa Tryz.call28 (c28 _) ?_;refine A4 ?_;refine A2 [0,1,2,23] ?_
 refine A3 (fun ht23=>?_) (fun ht23=>?_)
 ·cases ht23
 refine Rm ?_;refine Aa Tryz.call10 (c6u c _) ?_;refine x6 ?_;refine Bt Tryz.call29 (fun hB=>c29 l _) ?_;refine Qx ?_;refine Bt Tryz.call11 (fun hB=>c11 row _) ?_;refine A4 ?_;refine A2 [0,1,2,33] ?_
 refine A3 (fun ht33=>?_) (fun ht33=>?_)
 ·refine aj ?_;refine C4 ?_;exact ow
 have hw:(N0 c=false∧Jt l=false)∧R9 row=false:=by simpa using ht33
 have hc:=u6 hw.1.1
 have hc2:c.length≤1000000:=AEi hw.1.1
 have h:OkMovs l:=dr hw.1.2 hrl
 have hw4:=AE4 hw.2
 refine Z82 ?_;refine Aa Tryz.call17 (c17 c hc hc2 l h row hrr hw4 _) ?_;refine Z75 ?_;refine A2 [0,1,2,7,8] ?_;refine Z1 ?_;refine Aa Tryz.call30 (c30 c hc hc2 l h _) ?_;refine Z75 ?_;refine A2 [0,1,2,7,8,9,10] ?_;refine Z8 ?_;refine A2 [0,1,2,7,9,10,48] ?_
 refine A3 (fun ht48=>?_) (fun ht48=>?_)
 ·have hm:(Bp c l row).1=[]:=sh (by simpa using ht48)
  refine Z27 ?_;refine Z48 ?_;exact Z83
 have hf0:(Bp c l row).2=0:=by simpa using ht48
 obtain ⟨⟨hs,hp,hpX,hRX⟩,h3,hT⟩:=sg h hrr hf0
 obtain ⟨hmay,hst,hss⟩:=Ep hs
 have hcn:=Fe hc (fun m hm=>h.each m hm) l.length
 have hxr:=mu hRX.fine
 have hxl:(Bp c l row).1.length≤1048576:=by rw [hRX.len];exact hcn.len
 have hRS:J7 c l=(Bx c l l.length,0):=by
  rw [←hss]
  unfold Cq at hs ⊢
  split at hs
  ·rename_i h1
   rw [show ((J7 c l).2 != 0)=false from hs] at h1
   cases h1
  rename_i h1;rw [if_neg h1]
 have hol:((Bx c l l.length).map Am).length=l.length+1:=by rw [Aj,Hi]
 have hlen:=h.len
 refine Z5 ?_;refine Z8 ?_;refine A2 [0,1,2,7,9,10,53] ?_
 refine A3 (fun ht53=>?_) (fun ht53=>?_)
 ·have hC:=hT (by simpa using ht53)
  have hCl:=hC.len
  refine W9 ?_;refine A2 [0,1,2,7,9,10,58] ?_
  refine A3 (fun ht58=>?_) (fun ht58=>?_)
  ·rw [Aj,Aj,hCl] at ht58
   simp at ht58
  refine Lm ?_;refine A2 [0,1,2,7,9,10,11] ?_
  refine B7 (α:=Nat) (fun i=>⟨152,A7 0 (Am c) (A7 1 (Ew l) (A7 2 (Cv row) (A7 7 (Cv (Bp c l row).1) (A7 9 (Cj (Fc c l).1) (A7 10 (A5 (Fc c l).2) (A7 11 (A5 (i:Nat)) (fun _=>.any))))))),Hp,[],[],none⟩) (fun i=>i≤(Fc c l).1.length) (fun i=>(Fc c l).1.length-i) (0) (Ar _) (Bo rfl) rfl (fun i hx=>?_)
  refine Z60 ?_;refine A2 [0,1,2,7,9,10,11,62] ?_
  refine A3 (fun ht62=>?_) (fun ht62=>?_)
  ·have hlt:i<(Fc c l).1.length:=by simpa using ht62
   have hlt2:i<(Bp c l row).1.length:=by omega
   refine Su ?_
   refine A4 (h:=Ac (i) (A9 (Fc c l).1[i]) (fun _=>Ax hlt)) (hr:=?_)
   refine Z22 ?_;refine Aa Tryz.call15 (c15 30 (Fc c l).1[i] (hC.okE hlt) (by decide) ((AEh hc h hs).1.rng _ (B1 hlt)) c hc row hw4 hrr _) ?_
   rw [hC.val hlt hlt2]
   refine Xj ?_;refine A2 [0,1,2,7,9,10,11,12,13] ?_;refine AIw ?_;refine ag ?_
   refine Ft (h:=Ac (i) (C3 (Bp c l row).1[i]) (fun hB=>Ax hlt2)) (hr:=?_)
   refine Ft ?_;refine Ey ?_
   refine Bi (h:=Xa Xo (Jl (Bp c l row).1[i].kind (Bp c l row).1[i].n (Bp c l row).1[i].kind (Bp c l row).1[i].n (Bp c l row).1[i].s (Bp c l row).1[i].s)) (hr:=?_)
   refine A4 ?_;refine A2 [0,1,2,7,9,10,11,84] ?_
   refine A3 (fun ht84=>?_) (fun ht84=>?_)
   ·simp at ht84
   refine Z81 ?_;refine A2 [0,1,2,7,9,10,11] ?_
   exact Bb (i+1) hlt (by omega) (D4 (own:=[]) (fun _=>.refl _) (by repeat (first|exact Be|refine Bd (by first|exact Gy|exact D8|exact Es|exact Ce|(simp [or_imp,forall_and,Av];done)) ?_)) (by simp) (by simp))
  refine Z55 ?_;refine Z17 ?_;refine AMs ?_;refine A2 [0,1,7,8,10,14] ?_;refine Z1 ?_;refine Aa Tryz.call32 (c32 c hc hc2 l h _) ?_;refine Z75 ?_;refine A2 [0,1,7,8,10,14,15,16] ?_;refine Z1 ?_;refine Aa Tryz.call26 (c26 c hc l h _) ?_;refine Z75 ?_;refine A2 [7,8,10,14,15,16,17] ?_;refine Z36 ?_;refine Qw ?_;refine A2 [7,10,14,15,17,109] ?_
  refine A3 (fun ht109=>?_) (fun ht109=>?_)
  ·have hm:((((Fc c l).2==0) || ((Fc c l).2==3)):Bool)=true:=by rcases h3 with e|e<;>rw [e]<;>rfl
   refine Z17 ?_;refine ae ?_;refine Z48 ?_;exact Z23
  have h109:(Dz c l (Bp c l row).1).2=0∧(Ij c l).2=0:=by simpa using ht109
  obtain ⟨hD,hBk⟩:=ec hc h hs hRX hpX h109.1 h109.2
  have hDl:=hD.len
  have hbl:=dt hc h hxr (row:=(Bp c l row).1)
  rw [hRS]
  refine Rm ?_;refine A2 [7,14,15,17,19] ?_
  refine B7 (α:=Nat) (fun i=>⟨152,A7 7 (Cv (Bp c l row).1) (A7 14 (Cv (Dz c l (Bp c l row).1).1) (A7 15 (Cj (Ij c l).1) (A7 17 (Gb (Bx c l l.length)) (A7 19 (A5 (i:Nat)) (fun _=>.any))))),Hp,[],[],none⟩) (fun i=>i≤(Ij c l).1.length) (fun i=>(Ij c l).1.length-i) (0) (Ar _) (Bo rfl) rfl (fun i hx=>?_)
  refine Z60 ?_;refine A2 [7,14,15,17,19,119] ?_
  refine A3 (fun ht119=>?_) (fun ht119=>?_)
  ·have hlt:i<(Ij c l).1.length:=by simpa using ht119
   have hlt2:i<(Dz c l (Bp c l row).1).1.length:=by omega
   refine Z70 ?_
   apply Y.q
   ·intro B hT hF
    refine Z11 ?_
    refine Al (h:=Ac (i) (A9 (Ij c l).1[i]) (fun _=>Ax hlt)) (hr:=?_)
    refine Z84 ?_
    refine Al (h:=Q.sub64 (h1:=fun _=>by rw [hol];omega) (h2:=fun _=>by rw [hol];omega)) (hr:=?_)
    refine Al (h:=Ac (l.length) (Am (colsAt c l l.length)) (fun hB=>We (Gk (Ak _))) (hn:=fun hB=>by rw [hol];omega)) (hr:=?_)
    refine AL9 ?_
    rw [hD.val hlt hlt2]
    exact wn
   case hTF=>decide
   refine AL8 ?_;refine A4 ?_;refine A2 [7,14,15,17,19,20,21] ?_;refine AIw ?_;refine ag ?_
   refine Ft (h:=Ac (i) (C3 (Dz c l (Bp c l row).1).1[i]) (fun hB=>Ax hlt2)) (hr:=?_)
   refine Ft ?_;refine Ey ?_
   refine Bi (h:=Xa Xo (Jl (Dz c l (Bp c l row).1).1[i].kind (Dz c l (Bp c l row).1).1[i].n (Dz c l (Bp c l row).1).1[i].kind (Dz c l (Bp c l row).1).1[i].n (Dz c l (Bp c l row).1).1[i].s (Dz c l (Bp c l row).1).1[i].s)) (hr:=?_)
   refine A4 ?_;refine A2 [7,14,15,17,19,146] ?_
   refine A3 (fun ht146=>?_) (fun ht146=>?_)
   ·simp at ht146
   refine Z81 ?_;refine A2 [7,14,15,17,19] ?_
   exact Bb (i+1) hlt (by omega) (D4 (own:=[]) (fun _=>.refl _) (by repeat (first|exact Be|refine Bd (by first|exact F3|exact Es|exact Ce|(simp [or_imp,forall_and,Av];done)) ?_)) (by simp) (by simp))
  refine Z55 ?_;refine Z27 ?_;refine Z0 ?_;exact AMg
 refine Z82 ?_;refine AMs ?_;refine A2 [0,1,7,8,10,14] ?_;refine Z1 ?_;refine Aa Tryz.call32 (c32 c hc hc2 l h _) ?_;refine Z75 ?_;refine A2 [0,1,7,8,10,14,15,16] ?_;refine Z1 ?_;refine Aa Tryz.call26 (c26 c hc l h _) ?_;refine Z75 ?_;refine A2 [7,8,10,14,15,16,17] ?_;refine Z36 ?_;refine Qw ?_;refine A2 [7,10,14,15,17,109] ?_
 refine A3 (fun ht109=>?_) (fun ht109=>?_)
 ·have hm:((((Fc c l).2==0) || ((Fc c l).2==3)):Bool)=true:=by rcases h3 with e|e<;>rw [e]<;>rfl
  refine Z17 ?_;refine ae ?_;refine Z48 ?_;exact Z23
 have h109:(Dz c l (Bp c l row).1).2=0∧(Ij c l).2=0:=by simpa using ht109
 obtain ⟨hD,hBk⟩:=ec hc h hs hRX hpX h109.1 h109.2
 have hDl:=hD.len
 have hbl:=dt hc h hxr (row:=(Bp c l row).1)
 rw [hRS]
 refine Rm ?_;refine A2 [7,14,15,17,19] ?_
 refine B7 (α:=Nat) (fun i=>⟨152,A7 7 (Cv (Bp c l row).1) (A7 14 (Cv (Dz c l (Bp c l row).1).1) (A7 15 (Cj (Ij c l).1) (A7 17 (Gb (Bx c l l.length)) (A7 19 (A5 (i:Nat)) (fun _=>.any))))),Hp,[],[],none⟩) (fun i=>i≤(Ij c l).1.length) (fun i=>(Ij c l).1.length-i) (0) (Ar _) (Bo rfl) rfl (fun i hx=>?_)
 refine Z60 ?_;refine A2 [7,14,15,17,19,119] ?_
 refine A3 (fun ht119=>?_) (fun ht119=>?_)
 ·have hlt:i<(Ij c l).1.length:=by simpa using ht119
  have hlt2:i<(Dz c l (Bp c l row).1).1.length:=by omega
  refine Z70 ?_
  apply Y.q
  ·intro B hT hF
   refine Z11 ?_
   refine Al (h:=Ac (i) (A9 (Ij c l).1[i]) (fun _=>Ax hlt)) (hr:=?_)
   refine Z84 ?_
   refine Al (h:=Q.sub64 (h1:=fun _=>by rw [hol];omega) (h2:=fun _=>by rw [hol];omega)) (hr:=?_)
   refine Al (h:=Ac (l.length) (Am (colsAt c l l.length)) (fun hB=>We (Gk (Ak _))) (hn:=fun hB=>by rw [hol];omega)) (hr:=?_)
   refine AL9 ?_
   rw [hD.val hlt hlt2]
   exact wn
  case hTF=>decide
  refine AL8 ?_;refine A4 ?_;refine A2 [7,14,15,17,19,20,21] ?_;refine AIw ?_;refine ag ?_
  refine Ft (h:=Ac (i) (C3 (Dz c l (Bp c l row).1).1[i]) (fun hB=>Ax hlt2)) (hr:=?_)
  refine Ft ?_;refine Ey ?_
  refine Bi (h:=Xa Xo (Jl (Dz c l (Bp c l row).1).1[i].kind (Dz c l (Bp c l row).1).1[i].n (Dz c l (Bp c l row).1).1[i].kind (Dz c l (Bp c l row).1).1[i].n (Dz c l (Bp c l row).1).1[i].s (Dz c l (Bp c l row).1).1[i].s)) (hr:=?_)
  refine A4 ?_;refine A2 [7,14,15,17,19,146] ?_
  refine A3 (fun ht146=>?_) (fun ht146=>?_)
  ·simp at ht146
  refine Z81 ?_;refine A2 [7,14,15,17,19] ?_
  exact Bb (i+1) hlt (by omega) (D4 (own:=[]) (fun _=>.refl _) (by repeat (first|exact Be|refine Bd (by first|exact F3|exact Es|exact Ce|(simp [or_imp,forall_and,Av];done)) ?_)) (by simp) (by simp))
 refine Z55 ?_;refine Z27 ?_;refine Z0 ?_;exact AMg

end Go.SX.Nb
namespace Go.Proofs.YtofbdcbjpdpllaaGreatDoor
open Go Go.SX Go.SX.Nb Go.ChangeShapes Go.RowKit
set_option maxRecDepth 100000
theorem AA1:Tryz.pinned.checked.prog.funcNamed Rows.fuseForthRow.func=some 7:=by kernel_rfl
theorem AI6:laidOutB Tryz.pinned.checked.prog=true:=by kernel_rfl
theorem AI7:(Rows.fuseForthRow.inPlace==Tryz.pinned.checked.prog.inPlace 7)=true:=by kernel_rfl
theorem AI8:(Rows.fuseForthRow.unfollowed==Tryz.pinned.checked.prog.unfollowed 7)=true:=by kernel_rfl
theorem AI9:(Rows.fuseForthRow.recurses==Tryz.pinned.checked.prog.recurses 7)=true:=by kernel_rfl
theorem AIa:(Rows.fuseForthRow.named==Tryz.pinned.checked.prog.varsNamed 7)=true:=by kernel_rfl
theorem AIb:Tryz.pinned.checked.prog.mayEnter=true:=by kernel_rfl
theorem si:joinedFacts Tryz.pinned.checked.prog 7 Tryz.f7 (OpenSpec.ofChange Rows.fuseForthSpec).bare Rows.fuseForthRow=true:=by
 unfold joinedFacts
 rw [AI6,AI7,AI8,AI9,AIa,AIb]
 kernel_rfl
theorem AA2:false=Rows.fuseForthRow.goesBy Tryz.pinned.checked.prog:=by kernel_rfl
theorem AA3:Tryz.f7.isInstance Tryz.pinned.checked.prog Rows.fuseForthRow.origin Rows.fuseForthRow.targs:=of_decide_eq_true (by kernel_rfl)
theorem AA4:Tryz.f7.isWrapper Tryz.pinned.checked.prog Rows.fuseForthRow.wrapper Rows.fuseForthRow.mainSum:=by
 unfold Func.isWrapper
 first|(rw [if_pos (by decide +kernel)];kernel_rfl)|(rw [if_neg (by decide +kernel)];exact ⟨rfl,rfl⟩)
end Go.Proofs.YtofbdcbjpdpllaaGreatDoor
