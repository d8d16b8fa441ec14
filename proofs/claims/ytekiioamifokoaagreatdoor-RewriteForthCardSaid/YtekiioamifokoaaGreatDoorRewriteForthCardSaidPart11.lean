/- On the way (part 11). -/
import Derived.Test.YtekiioamifokoaaGreatDoorRewriteForthCardSaidPart10
set_option linter.all false
namespace Go.SX.Nb
open Go Go.SX Go.Proofs
variable [ErrAt]
set_option maxRecDepth 4000
abbrev pmO (L:List Tok) (i:Nat):AObj:=.cells 109 [rn L,A3 (i:Int)]
abbrev mvC (m:Mov):List AV:=[A3 m.kind,.slice true 1 (m.take.map Ac),.slice true 2 (m.give.map C2),.slice true 6 (m.ahead.map A8),.slice true 6 (m.back.map A8)]
abbrev mvO (m:Mov):AObj:=.cells 80 (mvC m)
abbrev Qx:AV:=.v (.tuple #[])
theorem Ep {n:Nat} {L:List Tok} {i:Nat}:ObjLow n (pmO L i):=by
 show ∀y∈[AV.slice false 3 (L.map Id),A3 (i:Int)],Low n y
 intro y hy
 simp only [B3,E6,or_false] at hy
 rcases hy with rfl|rfl
 ·simp [or_imp,forall_and]
 simp
/-- A contract of the parser, of sources that are right: it comes to what the model comes to. -/
structure CP (g:FuncId) (args:List AV) (H:List AObj) {α:Type} (X:PR α) (Q:α→Nat→AV→List AObj→Prop) (R:List AObj→Prop):Prop where
 run:(∃c j,X=.ok c j)→ACall Tryz.prog g args H (fun r H'=>∃c j,X=.ok c j∧Q c j r H')
theorem CP.ok {g:FuncId} {args:List AV} {H:List AObj} {α:Type} {X:PR α} {Q:α→Nat→AV→List AObj→Prop} {R:List AObj→Prop} {c:α} {j:Nat} (h:CP g args H X Q R) (hX:X=.ok c j):ACall Tryz.prog g args H (fun r H'=>Q c j r H'):=
 (h.run ⟨c,j,hX⟩).mono (fun r H' ⟨c',j',e,hq⟩=>by rw [hX] at e;injection e with e1 e2;subst e1;subst e2;exact hq)
theorem D6 {α:Type} {X:PR α} {e a:Int} (h:∃c j,X=.ok c j) (hX:X=.bad e a):False:=by
 obtain ⟨c,j,h⟩:=h
 rw [hX] at h
 cases h
def PR.isOk {α:Type}:PR α→Bool
 | .ok _ _=>true
 | .bad _ _=>false
theorem ANw {α:Type} {X:PR α} (h:X.isOk=true):∃c j,X=.ok c j:=by
 cases X with
 | ok c j=>exact ⟨c,j,rfl⟩
 | bad e a=>cases h
/-- The parser's object alone has turned. -/
def W1 (L:List Tok) (o:Nat) (Hp H':List AObj):Prop:=∃j,H'=Hp.set o (pmO L j)
theorem AJz (L:List Tok) (i o:Nat) (Hp:List AObj) (ho:Hp[o]? = some (pmO L i)) (hi:i<L.length):AFun Tryz.prog 115 [.ptr o 0] Hp (Id (Af L i)):=by
 refine Ae [.cell 2 118] [0] Tryz.func115 Tryz.ntmps115 (fun d=>?_)
 refine ALk ?_;refine Z33 ?_
 refine As (h:=Bh ho) (hr:=?_)
 refine Z33 ?_
 refine As (h:=Bh ho) (hr:=?_)
 refine Gq ?_
 refine A5 (h:=Ah (i) (Id (Af L i)) (fun _=>Mf hi)) (hr:=?_)
 refine A5 ?_;exact AE7

theorem ANx (L:List Tok) (s:Str) (i o:Nat) (Hp:List AObj) (ho:Hp[o]? = some (pmO L i)) (hi:i<L.length):AFun Tryz.prog 197 [.ptr o 0,Ac s] Hp (B0 (isP L s i)):=by
 refine Ae [.tmp 4] [0,1] Tryz.func197 Tryz.ntmps197 (fun d=>?_)
 refine Z37 ?_;refine AIa ?_;refine Z14 ?_;refine A2 [1,5] ?_;refine Z23 ?_;refine Z73 ?_;refine Z85 ?_;exact AEo

/-! Where the parser of moves comes to. -/
def PR.In {α:Type} (x:PR α) (i n:Nat):Prop:=∀r j,x=.ok r j→i<j∧j<n
theorem PR.bind_ok {α β:Type} {x:PR α} {f:α→Nat→PR β} {r:β} {j:Nat} (h:x.bind f=.ok r j):∃a k,x=.ok a k∧f a k=.ok r j:=by
 cases x with
 | ok a k=>exact ⟨a,k,rfl,h⟩
 | bad e a=>cases h
theorem AGo {L:List Tok} {s:Str} {i:Nat} (h:isP L s i=true):(Af L i).kind≠0:=by
 unfold isP at h
 simp only [Ao,Cx,beq_iff_eq] at h
 rcases h.1 with h|h<;>rw [h]<;>decide
theorem Gy {L:List Tok} (hl:TokEnd L) {s:Str} {i:Nat} (hi:i<L.length):(D7 L s i).In i L.length:=by
 intro r j h
 unfold D7 at h
 split at h
 ·rename_i h1
  injection h with _ h
  subst h
  exact ⟨dv i,hl.step hi (AGo h1)⟩
 cases h
theorem J1 {L:List Tok} (hl:TokEnd L) {i:Nat} (hi:i<L.length):(Hr L i).In i L.length:=by
 intro r j h
 unfold Hr at h
 split at h
 ·cases h
 rename_i h1
 injection h with _ h
 subst h
 have hk:(Af L i).kind=1:=by simpa using h1
 exact AMj
theorem AGp {L:List Tok} (hl:TokEnd L) {nm:Str} {i:Nat} (hi:i<L.length):(tr L nm i).In i L.length:=by
 intro r j h
 unfold tr at h
 split at h
 ·cases h
 rename_i h1
 injection h with _ h
 subst h
 have hk:(Af L i).kind=2:=by simp only [Tk,E3,bne_eq_false_iff_eq] at h1;exact h1.1
 exact AMj
theorem cy {L:List Tok} (hl:TokEnd L) {i:Nat} (hi:i<L.length):(Kx L i).In i L.length:=by
 intro r j h
 obtain ⟨a,k,h1,h2⟩:=PR.bind_ok h
 obtain ⟨a1,a2⟩:=J1 hl hi _ _ h1
 obtain ⟨b1,b2⟩:=AGp hl a2 _ _ h2
 exact ⟨by omega,b2⟩
theorem Te {L:List Tok} (hl:TokEnd L) (hll:L.length≤500000) {i:Nat} (hi:i<L.length) {x:Expr} {k:Nat} (h:O9 L i=.ok x k):i≤k∧k<L.length:=by
 unfold O9 at h
 split at h
 ·cases h
 rename_i h0
 injection h with _ h
 subst h
 have h0:(atM L i).2.2.1=0:=by simpa using h0
 have hq:=Yb hl (by omega:L.length≤1048576) hi
 unfold atM at h0 ⊢
 split at h0
 ·rename_i h1
  have:(atS L i (atR L i)).code=0:=h0
  rw [this] at h1
  cases h1
 rename_i h1
 rw [if_neg h1]
 have e:(atS L i (atR L i)).i=(atR L i).2.i:=by
  unfold atS
  repeat' split
  all_goals first|rfl|exact failM_i.1
 show i≤((atS L i (atR L i)).i:Int).toNat∧((atS L i (atR L i)).i:Int).toNat<_
 rw [Int.toNat_natCast,e]
 exact ⟨hq.le,hq.lt⟩
/-- A move has no more parts than so many. -/
structure MvLe (m:Mov) (n:Nat):Prop where
 take:m.take.length≤n
 give:m.give.length≤n
 ahead:m.ahead.length≤n
 back:m.back.length≤n
theorem MvLe.mono {m:Mov} {i j:Nat} (h:MvLe m i) (hij:i≤j):MvLe m j:=⟨Hu h.take hij,Hu h.give hij,Hu h.ahead hij,Hu h.back hij⟩
/-- What a part of a move comes to. -/
def AK0 (x:PR Mov) (i n:Nat):Prop:=∀m j,x=.ok m j→i≤j∧j<n∧MvLe m (2*j)
/-- A part of a move that goes on from i. -/
def aj (L:List Tok) (one:Mov→Nat→PR Mov):Prop:=∀m i,MvLe m (2*i-1)→0<i→i<L.length→AK0 (one m i) i L.length
theorem M3 {L:List Tok} (hl:TokEnd L) (hll:L.length≤500000):aj L (Fh L):=by
 intro m i hm _ hi m' k h
 obtain ⟨c,j,h1,h2⟩:=PR.bind_ok h
 obtain ⟨u,j2,h3,h4⟩:=PR.bind_ok h2
 obtain ⟨x,j3,h5,h6⟩:=PR.bind_ok h4
 injection h6 with h6 h7
 subst h6;subst h7
 have a1:=cy hl hi _ _ h1
 have a2:=Gy hl a1.2 _ _ h3
 have a3:=Te hl hll a2.2 h5
 obtain ⟨b1,b2,b3,b4⟩:=hm
 exact ⟨by omega,a3.2,by show m.take.length≤_;omega,by show (m.give++[c]).length≤_;rw [At,Jn];omega,by show (m.ahead++[x]).length≤_;rw [At,Jn];omega,by show m.back.length≤_;omega⟩
theorem md {L:List Tok} (hl:TokEnd L) (hll:L.length≤500000):aj L (Vr L):=by
 intro m i hm h0 hi m' k h
 obtain ⟨x,j,h1,h2⟩:=PR.bind_ok h
 injection h2 with h6 h7
 subst h6;subst h7
 have a3:=Te hl hll hi h1
 obtain ⟨b1,b2,b3,b4⟩:=hm
 exact ⟨by omega,a3.2,by show m.take.length≤_;omega,by show m.give.length≤_;omega,by show m.ahead.length≤_;omega,by show (m.back++[x]).length≤_;rw [At,Jn];omega⟩
theorem Zd {L:List Tok} (hl:TokEnd L):aj L (Td L):=by
 intro m i hm _ hi m' k h
 obtain ⟨s,j,h1,h2⟩:=PR.bind_ok h
 injection h2 with h6 h7
 subst h6;subst h7
 have a1:=J1 hl hi _ _ h1
 obtain ⟨b1,b2,b3,b4⟩:=hm
 exact ⟨by omega,a1.2,by show (m.take++[s]).length≤_;rw [At,Jn];omega,by show m.give.length≤_;omega,by show m.ahead.length≤_;omega,by show m.back.length≤_;omega⟩
theorem O2 {L:List Tok} {s:Str} {i:Nat} {u:Unit} {j:Nat} (h:D7 L s i=.ok u j):j=i+1:=by
 unfold D7 at h
 split at h
 ·injection h with _ h;exact h.symm
 cases h
theorem me {L:List Tok} (hl:TokEnd L) {n:Int} {one:Mov→Nat→PR Mov} (hP:aj L one):∀(f k:Nat) (m:Mov) (i:Nat),MvLe m (2*i)→0<i→i<L.length→AK0 (Tc L n one f k m i) i L.length
 | 0,k,m,i,hm,h0,hi=>fun m' j h=>by
  injection h with h1 h2
  subst h1;subst h2
  exact ⟨Aj _,hi,hm⟩
 | f+1,k,m,i,hm,h0,hi=>fun m' j h=>by
  rw [Tc] at h
  split at h
  ·obtain ⟨u,j1,h1,h2⟩:=PR.bind_ok h
   obtain ⟨m1,j2,h3,h4⟩:=PR.bind_ok h2
   have e:=O2 h1
   have a1:=Gy hl hi _ _ h1
   obtain ⟨b1,b2,b3⟩:=hP m j1 (hm.mono (by omega)) (by omega) a1.2 _ _ h3
   obtain ⟨c1,c2,c3⟩:=me hl hP f (k+1) m1 j2 b3 (by omega) b2 _ _ h4
   exact nr
  injection h with h1 h2
  subst h1;subst h2
  exact ⟨Aj _,hi,hm⟩
theorem Tf {L:List Tok} (hl:TokEnd L) {n:Int} {one:Mov→Nat→PR Mov} (hP:aj L one):aj L (Iz L n one):=by
 intro m i hm h0 hi m' k h
 obtain ⟨m1,j,h1,h2⟩:=PR.bind_ok h
 obtain ⟨b1,b2,b3⟩:=hP m i hm h0 hi _ _ h1
 obtain ⟨c1,c2,c3⟩:=me hl hP _ _ m1 j b3 (by omega) b2 _ _ h2
 exact nr
theorem Wk {L:List Tok} (hl:TokEnd L) (hll:L.length≤500000) {m:Mov} {i:Nat} (hm:MvLe m (2*i)) (hi:i<L.length):AK0 (Gj L m i) i L.length:=by
 intro m' k h
 obtain ⟨u,j,h1,h2⟩:=PR.bind_ok h
 have e:=O2 h1
 have a1:=Gy hl hi _ _ h1
 obtain ⟨c1,c2,c3⟩:=Tf hl (md hl hll) m j (hm.mono (by omega)) (by omega) a1.2 _ _ h2
 exact nr
theorem xw {L:List Tok} (hl:TokEnd L):aj L (Ky L):=by
 intro m i hm h0 hi m' k h
 obtain ⟨s,j,h1,h2⟩:=PR.bind_ok h
 obtain ⟨u,j2,h3,h4⟩:=PR.bind_ok h2
 obtain ⟨t,j3,h5,h6⟩:=PR.bind_ok h4
 injection h6 with h6 h7
 subst h6;subst h7
 have a1:=J1 hl hi _ _ h1
 have a2:=Gy hl a1.2 _ _ h3
 have a3:=J1 hl a2.2 _ _ h5
 exact ⟨by omega,a3.2,by show 1≤_;omega,by show 1≤_;omega,by show 1≤_;omega,by show 1≤_;omega⟩
theorem MvLe.takeS {m:Mov} {n:Nat} (h:MvLe m n) {s:Str} (h1:1≤n):MvLe (takeS m s) n:=⟨h1,h.give,h.ahead,h.back⟩
theorem tz {L:List Tok} (hl:TokEnd L) (hll:L.length≤500000):aj L (J0 L):=by
 intro m i hm h0 hi m' k h
 unfold J0 at h
 split at h
 ·exact M3 hl hll m i hm h0 hi _ _ h
 split at h
 ·obtain ⟨s,j,h1,h2⟩:=PR.bind_ok h
  have a1:=J1 hl hi _ _ h1
  obtain ⟨c1,c2,c3⟩:=Wk hl hll ((hm.mono (by omega:2*i-1≤2*j)).takeS (by omega)) a1.2 _ _ h2
  exact nr
 split at h
 ·exact xw hl m i hm h0 hi _ _ h
 split at h
 ·obtain ⟨s,j,h1,h2⟩:=PR.bind_ok h
  obtain ⟨u,j2,h3,h4⟩:=PR.bind_ok h2
  obtain ⟨m1,j3,h5,h6⟩:=PR.bind_ok h4
  have a1:=J1 hl hi _ _ h1
  have a2:=Gy hl a1.2 _ _ h3
  obtain ⟨b1,b2,b3⟩:=Tf hl (M3 hl hll) (takeS m s) j2 ((hm.mono (by omega:2*i-1≤2*j2-1)).takeS (by omega)) (by omega) a2.2 _ _ h5
  obtain ⟨c1,c2,c3⟩:=Wk hl hll b3 b2 _ _ h6
  exact nr
 split at h
 ·obtain ⟨m1,j,h1,h2⟩:=PR.bind_ok h
  obtain ⟨u,j2,h3,h4⟩:=PR.bind_ok h2
  obtain ⟨m2,j3,h5,h6⟩:=PR.bind_ok h4
  obtain ⟨b1,b2,b3⟩:=Tf hl (Zd hl) m i hm h0 hi _ _ h1
  have e:=O2 h3
  have a2:=Gy hl b2 _ _ h3
  obtain ⟨d1,d2,d3⟩:=M3 hl hll m1 j2 (b3.mono (by omega)) (by omega) a2.2 _ _ h5
  obtain ⟨c1,c2,c3⟩:=Wk hl hll d3 d2 _ _ h6
  exact nr
 split at h
 ·obtain ⟨m1,j,h1,h2⟩:=PR.bind_ok h
  obtain ⟨d1,d2,d3⟩:=M3 hl hll m i hm h0 hi _ _ h1
  obtain ⟨c1,c2,c3⟩:=Wk hl hll (d3.takeS (by omega)) d2 _ _ h2
  exact nr
 injection h with h1 h2
 subst h1;subst h2
 exact ⟨Aj _,hi,hm.mono (by omega)⟩
def Ze:=@PR.bind_ok
theorem qg (L:List Tok) (s:Str) (i o:Nat) (Hp:List AObj) (ho:Hp[o]? = some (pmO L i)) (hi:i<L.length) (hll:L.length≤500000):CP 153 [.ptr o 0,Ac s] Hp (D7 L s i) (fun _ j r H'=>r=Qx∧H'=Hp.set o (pmO L j)) (W1 L o Hp):=by
 refine ⟨fun hX=>?_⟩
 refine Ae [] [0,1] Tryz.func153 Tryz.ntmps153 (fun d=>?_)
 refine Z7 ?_;refine A9 Tryz.call197 (ANx L s i o _ (Ag ho) hi) ?_;refine A5 ?_;refine A2 [0,7] ?_
 refine A4 (fun ht7=>?_) (fun ht7=>?_)
 ·have hq:isP L s i=false:=by simpa using ht7
  have e:D7 L s i=.bad 8 (Af L i).at_:=if_neg (by rw [hq];simp)
  exact AAl
 have hq:isP L s i=true:=by simpa using ht7
 have e:D7 L s i=.ok () (i+1):=if_pos hq
 refine Z3 ?_;refine Z47 ?_
 refine A5 (h:=Bh ho) (hr:=?_)
 refine Z12 ?_
 refine Dp jS ho ?_ ?_
 ·simp
 refine A2 [] ?_;exact F3 .nores (hp:=⟨(),i+1,e,rfl,rfl⟩)

theorem xy (L:List Tok) (i o:Nat) (Hp:List AObj) (ho:Hp[o]? = some (pmO L i)) (hi:i<L.length) (hll:L.length≤500000):CP 191 [.ptr o 0] Hp (Hr L i) (fun s j r H'=>r=Ac s∧H'=Hp.set o (pmO L j)) (W1 L o Hp):=by
 refine ⟨fun hX=>?_⟩
 refine Ae [.tmp 2] [0] Tryz.func191 Tryz.ntmps191 (fun d=>?_)
 refine Z41 ?_;refine AIa ?_;refine Z14 ?_;refine Mn ?_;refine Z30 ?_;refine A2 [0,3,8] ?_
 refine A4 (fun ht8=>?_) (fun ht8=>?_)
 ·have e:Hr L i=.bad 8 (Af L i).at_:=if_pos ht8
  exact AAl
 have e:Hr L i=.ok (Af L i).text (i+1):=if_neg (by rw [ht8];simp)
 refine Rb ?_
 refine A5 (h:=Bh ho) (hr:=?_)
 refine Z12 ?_
 refine Dp jS ho ?_ ?_
 ·simp
 refine A2 [3] ?_;refine Z15 ?_;refine Z4 ?_;exact Aa (Ai A7) (hp:=⟨_,i+1,e,rfl,rfl⟩)

theorem getset {Hp:List AObj} {o:Nat} {A B:AObj} (h:Hp[o]? = some A):(Hp.set o B)[o]? = some B:=by
 have:=(Ad.1 h).1
 simp [this]
theorem ARa (L:List Tok) (i o:Nat) (Hp:List AObj) (ho:Hp[o]? = some (pmO L i)) (hi:i<L.length) (hl:TokEnd L) (hll:L.length≤500000):CP 229 [.ptr o 0] Hp (Kx L i) (fun c j r H'=>r=C2 c∧H'=Hp.set o (pmO L j)) (W1 L o Hp):=by
 refine ⟨fun hX=>?_⟩
 refine Ae [.cell 2 69] [0] Tryz.func229 Tryz.ntmps229 (fun d=>?_)
 refine Z63 ?_
 rcases hN:Hr L i with ⟨s,j⟩|⟨e,a⟩
 rotate_left
 ·exact (D6 hX (by first|exact by unfold Kx;rw [hN];rfl|exact hN)).elim
 have hj:j<L.length:=(J1 hl hi _ _ hN).2
 have e0:Kx L i=tr L s j:=by unfold Kx;rw [hN];rfl
 refine Z2 ?_;refine Cj (x:=pmO L j) Tryz.call191 ho (by simp) Ep ((xy L i o _ (Ag ho) hi hll).ok hN) ?_;refine jk ?_;refine iz ?_;refine Z2 ?_;refine A9 Tryz.call115 (AJz L j o _ (Ag (getset ho)) hj) ?_;refine Z14 ?_;refine A2 [0,2,3,4] ?_;refine Z7 ?_;refine A9 Tryz.call254 (AP7 (Af L j).text _) ?_;refine A5 ?_;refine Gs ?_;refine A2 [0,2,3,4] ?_;refine Z23 ?_;refine Z6 ?_;refine Z53 ?_;refine A2 [0,2,3,21] ?_
 refine A4 (fun ht21=>?_) (fun ht21=>?_)
 ·have e:Kx L i=.bad 8 (Af L j).at_:=by rw [e0];exact if_pos ht21
  exact AAl
 have e:Kx L i=.ok ⟨s,Ve (Af L j).text⟩ (j+1):=by rw [e0];exact if_neg (by rw [ht21];simp)
 refine Rb ?_
 refine A5 (h:=Bh (getset ho)) (hr:=?_)
 refine Z12 ?_
 refine Dp jS (getset ho) ?_ ?_
 ·simp
 refine Jb ?_;refine Z2 ?_;refine Z38 ?_;exact Aa (Ai (B4 jA jS)) (hp:=⟨_,j+1,e,rfl,by rw [Bv];rfl⟩)

theorem ANy (L:List Tok) (i o:Nat) (Hp:List AObj) (ho:Hp[o]? = some (pmO L i)) (hi:i<L.length) (hl:TokEnd L) (hll:L.length≤500000):CP 230 [.ptr o 0] Hp (O9 L i) (fun c j r H'=>r=A8 c∧H'=Hp.set o (pmO L j)) (W1 L o Hp):=by
 refine ⟨fun hX=>?_⟩
 refine Ae [.cell 2 27] [0] Tryz.func230 Tryz.ntmps230 (fun d=>?_)
 refine Z63 ?_;refine Fj [0,1,3,7,0,16,48,112,255,511,1023,1023,1023,0,0,26623,61439,131071] [] [.q 13 [] [],.s [3] none [] [],.s [5] none [] [],.s [3] none [] [],.q 1 [] [],.s [5] none [] []] (fun _=>Hp) (fun _=>[.cells 27 [A3 0,Ac [],A3 0,A3 0,Ac [],.nil]]) Ak (by kernel_rfl) rfl rfl (fun _=>rfl) ?_
 apply Y.q
 ·intro B hT hF
  refine Z33 ?_
  refine As (h:=Bh ho) (hr:=?_)
  refine Z33 ?_
  refine As (h:=Bh ho) (hr:=?_)
  refine Dx Tryz.call120 (AN0 L i hi hl hll (fun n Dv h1 h2=>bx hl (by omega) n Dv h1 h2) _) ?_;exact j6
 case hTF=>decide
 refine Y.allocP Tryz.zeroValue27 ?_;refine Y.allocP Tryz.zeroValue73 ?_;refine Y.storeP Tryz.sizeOf27 ?_
 apply Y.q
 ·intro B hT hF
  exact Z56
 case hTF=>decide
 refine Y.storeP Tryz.sizeOf73 ?_;refine Er (tn:=[])  ?_;refine A2 [0,2,3,4,5] ?_;refine Z30 ?_;refine A2 [0,2,3,4,5,21] ?_
 refine A4 (fun ht21=>?_) (fun ht21=>?_)
 ·have e:O9 L i=.bad (atM L i).2.2.1 (atM L i).2.2.2:=if_pos ht21
  exact AAl
 obtain ⟨k,hk,hkl⟩:=gr hl (by omega) hi (by simpa using ht21)
 have e:O9 L i=.ok (atM L i).1 k:=(if_neg (by rw [ht21];simp)).trans (by rw [hk];rfl)
 rw [hk]
 refine jg ?_
 refine Dp jS ho ?_ ?_
 ·simp
 refine Jb ?_;refine Z2 ?_;refine Z38 ?_;exact Aa (Ai (B4 jA jS)) (hp:=⟨_,k,e,(Al _).symm,rfl⟩) (hlow:=by have:=Am Hp.length (atM L i).1;rw [Al] at this;exact this)

/-- The parser's object and the move's, turned. -/
def U2 (L:List Tok) (Hp:List AObj) (o om i:Nat) (x:AObj):List AObj:=(Hp.set o (pmO L i)).set om x
theorem U2_len {L:List Tok} {Hp:List AObj} {o om i:Nat} {x:AObj}:(U2 L Hp o om i x).length=Hp.length:=by simp [U2]
theorem Fw {L:List Tok} {Hp:List AObj} {o om i:Nat} {x z:AObj} (hm:Hp[om]? = some z):(U2 L Hp o om i x)[om]? = some x:=gB hm
theorem F0 {L:List Tok} {Hp:List AObj} {o om i:Nat} {x z:AObj} (ho:Hp[o]? = some z) (hne:om≠o):(U2 L Hp o om i x)[o]? = some (pmO L i):=gA ho hne
theorem Fm {L:List Tok} {Hp:List AObj} {o om i j:Nat} {x:AObj} (hne:om≠o):(U2 L Hp o om i x).set o (pmO L j)=U2 L Hp o om j x:=AC1 hne
theorem U2_setm {L:List Tok} {Hp:List AObj} {o om i:Nat} {x y:AObj}:(U2 L Hp o om i x).set om y=U2 L Hp o om i y:=Bv ..
theorem Tg {L:List Tok} {Hp:List AObj} {o om i:Nat} {x:AObj} (ho:Hp[o]? = some (pmO L i)) (hm:Hp[om]? = some x):U2 L Hp o om i x=Hp:=by unfold U2;rw [Ce ho,Ce hm]
theorem Hm {L:List Tok} {Hp:List AObj} {o om i q:Nat} {x:AObj} (h1:q≠o) (h2:q≠om):(U2 L Hp o om i x)[q]? = Hp[q]? := by unfold U2;rw [Bx (Ne.symm h2),Bx (Ne.symm h1)]
def W2 (L:List Tok) (o om:Nat) (Hp H':List AObj):Prop:=∃j m,H'=U2 L Hp o om j (mvO m)
theorem Rx {n k:Nat} {o:Bool} {l:List Expr} {x:Expr}:Low n (.slice o k (l.map A8++[.agg (El x)])):=by
 rw [show AV.agg (El x)=A8 x from (Al x).symm];exact Ro
theorem Gz {n:Nat} {m:Mov}:ObjLow n (mvO m):=by
 show ∀y∈mvC m,Low n y
 intro y hy
 simp only [mvC,B3,E6,or_false] at hy
 rcases hy with rfl|rfl|rfl|rfl|rfl
 all_goals first|exact D5|simp [or_imp,forall_and]
theorem xz {L:List Tok} {Hp:List AObj} {o om i:Nat} {m:Mov} {c:Col} {x:AObj}:(U2 L Hp o om i x).set om (.cells 80 [A3 m.kind,.slice true 1 (m.take.map Ac),.slice true 2 (m.give.map C2++[C2 c]),.slice true 6 (m.ahead.map A8),.slice true 6 (m.back.map A8)])=U2 L Hp o om i (mvO (E8 m c)):=by
 rw [U2_setm];simp only [mvO,mvC,E8,Bj,Bk,Dr]
theorem y6 {L:List Tok} {Hp:List AObj} {o om i:Nat} {m:Mov} {e:Expr} {x:AObj}:(U2 L Hp o om i x).set om (.cells 80 [A3 m.kind,.slice true 1 (m.take.map Ac),.slice true 2 (m.give.map C2),.slice true 6 (m.ahead.map A8++[.agg (El e)]),.slice true 6 (m.back.map A8)])=U2 L Hp o om i (mvO (tt m e)):=by
 rw [U2_setm,show AV.agg (El e)=A8 e from (Al e).symm];simp only [mvO,mvC,tt,Bj,Bk,Dr]
theorem y7 {L:List Tok} {Hp:List AObj} {o om i:Nat} {m:Mov} {e:Expr} {x:AObj}:(U2 L Hp o om i x).set om (.cells 80 [A3 m.kind,.slice true 1 (m.take.map Ac),.slice true 2 (m.give.map C2),.slice true 6 (m.ahead.map A8),.slice true 6 (m.back.map A8++[.agg (El e)])])=U2 L Hp o om i (mvO (tw m e)):=by
 rw [U2_setm,show AV.agg (El e)=A8 e from (Al e).symm];simp only [mvO,mvC,tw,Bj,Bk,Dr]
theorem y8 {L:List Tok} {Hp:List AObj} {o om i:Nat} {m:Mov} {s:Str} {x:AObj}:(U2 L Hp o om i x).set om (.cells 80 [A3 m.kind,.slice true 1 (m.take.map Ac++[Ac s]),.slice true 2 (m.give.map C2),.slice true 6 (m.ahead.map A8),.slice true 6 (m.back.map A8)])=U2 L Hp o om i (mvO (tx m s)):=by
 rw [U2_setm];simp only [mvO,mvC,tx,Bj,Bk,Dr]

theorem AGq (L:List Tok) (m:Mov) (i o om:Nat) (Hp:List AObj) (hne:om≠o) (ho:Hp[o]? = some (pmO L i)) (hm:Hp[om]? = some (mvO m)) (hi:i<L.length) (hl:TokEnd L) (hll:L.length≤500000) (hb:MvLe m (2*i-1)):CP 190 [.ptr o 0,.ptr om 0] Hp (Fh L m i) (fun m' j r H'=>r=Qx∧H'=U2 L Hp o om j (mvO m')) (W2 L o om Hp):=by
 refine ⟨fun hX=>?_⟩
 have:=hb.take;have:=hb.give;have:=hb.ahead;have:=hb.back
 refine Ae [] [0,1] Tryz.func190 Tryz.ntmps190 (fun d=>?_)
 rcases hC:Kx L i with ⟨c,j⟩|⟨e,a⟩
 rotate_left
 ·exact (D6 hX (by first|exact by unfold Fh;rw [hC];rfl|exact hC)).elim
 have hj:=cy hl hi _ _ hC
 refine Fj [0,0,2,6,14,0,32,96,254,511,1023,2047] [4,6] [.q 4 [] [],.s [8] (some 0) [] [],.q 1 [] [1],.s [10] (some 1) [] [],.q 1 [1] [],.s [8,12] none [0,1] []] (fun B=>U2 L Hp o om (if B 1=true then j else i) (if B 0=true then .cells 80 [A3 m.kind,.slice true 1 (m.take.map Ac),.slice false 2 (m.give.map C2),.slice true 6 (m.ahead.map A8),.slice true 6 (m.back.map A8)] else .cells 80 [A3 m.kind,.slice true 1 (m.take.map Ac),.slice true 2 (m.give.map C2),.slice true 6 (m.ahead.map A8),.slice true 6 (m.back.map A8)])) (fun _=>[]) Ak (by kernel_rfl) (Tg ho hm) rfl (fun B=>U2_len) ?_
 apply Y.q
 ·intro B hT hF
  exact j6
 case hTF=>decide
 refine Oy (o:=om) (t':=80) (cs:=[A3 m.kind,.slice true 1 (m.take.map Ac),.slice true 2 (m.give.map C2),.slice true 6 (m.ahead.map A8),.slice true 6 (m.back.map A8)]) (cs':=[A3 m.kind,.slice true 1 (m.take.map Ac),.slice false 2 (m.give.map C2),.slice true 6 (m.ahead.map A8),.slice true 6 (m.back.map A8)]) Tryz.isAgg30 (fun B hB=>⟨by simp only [hB];exact Fw hm,U2_setm.symm,rfl⟩) ?_
 apply Y.q
 ·intro B hT hF
  exact Z56
 case hTF=>decide
 refine Nf (r:=C2 c) (o:=o) (x0:=pmO L i) (x:=pmO L j) Tryz.call229 (fun B hB1 hB2 hB=>⟨by simp only [hB];exact F0 ho hne,(Fm hne).symm,rfl,Ep,?_⟩) ?_
 ·simp only [hB]
  exact (ARa L i o _ (Ag (F0 ho hne)) hi hl hll).ok hC
 apply Y.q
 ·intro B hT hF
  exact Z39
 case hTF=>decide
 refine Y.append jU Tryz.type69 ?_ ?_ ?_
 ·simp [Tryz.t69];omega
 ·simp [Tryz.t69];omega
 refine Er (tn:=[4,6]) (U:=U2 L Hp o om j (.cells 80 [A3 m.kind,.slice true 1 (m.take.map Ac),.slice false 2 (m.give.map C2),.slice true 6 (m.ahead.map A8),.slice true 6 (m.back.map A8)])) ?_;refine Z0 ?_
 refine G8 jS (Fw hm) ?_ ?_
 ·simp [or_imp,forall_and]
 refine A2 [0,1] ?_;refine Rw (xz (m:=m) (c:=c)) ?_
 rcases hW:D7 L [61] j with ⟨u,j2⟩|⟨e,a⟩
 rotate_left
 ·exact (D6 hX (by first|exact by unfold Fh;rw [hC];show (D7 L [61] j).bind _=_;rw [hW];rfl|exact hW)).elim
 have hj2:=Gy hl hj.2 _ _ hW
 refine Z2 ?_;refine Cj (x:=pmO L j2) Tryz.call153 (F0 ho hne) (by simp) Ep ((qg L [61] j o _ (Ag (F0 ho hne)) hj.2 hll).ok hW) ?_
 rw [Fm hne]
 refine A2 [0,1] ?_
 rcases hT:O9 L j2 with ⟨x,k⟩|⟨e,a⟩
 rotate_left
 ·exact (D6 hX (by first|exact by unfold Fh;rw [hC];show (D7 L [61] j).bind _=_;rw [hW];show (O9 L j2).bind _=_;rw [hT];rfl|exact hT)).elim
 have hk:=Te hl hll hj2.2 hT
 refine W.drawT0 [0,1,3,7,0,16,15,0,255,511,1023,511,2559,6655] [3,5] [.q 3 [] [0],.s [20] (some 0) [] [],.q 1 [] [1],.s [22] (some 1) [] [],.q 2 [] []] (fun B=>U2 L Hp o om (if B 1=true then k else j2) (if B 0=true then .cells 80 [A3 (E8 m c).kind,.slice true 1 ((E8 m c).take.map Ac),.slice true 2 ((E8 m c).give.map C2),.slice false 6 ((E8 m c).ahead.map A8),.slice true 6 ((E8 m c).back.map A8)] else .cells 80 [A3 (E8 m c).kind,.slice true 1 ((E8 m c).take.map Ac),.slice true 2 ((E8 m c).give.map C2),.slice true 6 ((E8 m c).ahead.map A8),.slice true 6 ((E8 m c).back.map A8)])) (fun _=>[]) Ak (by kernel_rfl) rfl rfl (fun B=>by rw [U2_len];exact U2_len.symm) ?_
 apply Y.q
 ·intro B hT hF
  exact AE8
 case hTF=>decide
 refine Oy (o:=om) (t':=80) (cs:=[A3 (E8 m c).kind,.slice true 1 ((E8 m c).take.map Ac),.slice true 2 ((E8 m c).give.map C2),.slice true 6 ((E8 m c).ahead.map A8),.slice true 6 ((E8 m c).back.map A8)]) (cs':=[A3 (E8 m c).kind,.slice true 1 ((E8 m c).take.map Ac),.slice true 2 ((E8 m c).give.map C2),.slice false 6 ((E8 m c).ahead.map A8),.slice true 6 ((E8 m c).back.map A8)]) Tryz.isAgg25 (fun B hB=>⟨by simp only [hB];exact Fw hm,U2_setm.symm,rfl⟩) ?_
 apply Y.q
 ·intro B hT hF
  exact Z56
 case hTF=>decide
 refine Nf (r:=A8 x) (o:=o) (x0:=pmO L j2) (x:=pmO L k) Tryz.call230 (fun B hB1 hB2 hB=>⟨by simp only [hB];exact F0 ho hne,(Fm hne).symm,rfl,Ep,?_⟩) ?_
 ·simp only [hB]
  exact (ANy L j2 o _ (Ag (F0 ho hne)) hj2.2 hl hll).ok hT
 apply Y.q
 ·intro B hT hF
  exact v8
 case hTF=>decide
 refine Y.appendPut4 (tn:=[3,5]) (U:=U2 L Hp o om k (.cells 80 [A3 (E8 m c).kind,.slice true 1 ((E8 m c).take.map Ac),.slice true 2 ((E8 m c).give.map C2),.slice false 6 ((E8 m c).ahead.map A8),.slice true 6 ((E8 m c).back.map A8)])) (O:=[]) (o:=om) (t':=80) (cs:=[A3 (E8 m c).kind,.slice true 1 ((E8 m c).take.map Ac),.slice true 2 ((E8 m c).give.map C2),.slice false 6 ((E8 m c).ahead.map A8),.slice true 6 ((E8 m c).back.map A8)]) (by kernel_rfl) jU Tryz.type27 Tryz.sizeOf27 Tryz.sizeOf25 jU (Ag (Fw hm)) ?_ ?_ ?_ (hfsz:=Tryz.sizeOf25)
 ·simp [Tryz.t27,E8];omega
 ·simp [Tryz.t27,E8];omega
 refine Z0 ?_
 refine G8 jS (Fw hm) ?_ ?_
 ·exact Rx
 refine A2 [] ?_;exact F3 .nores (hp:=⟨tt (E8 m c) x,k,by unfold Fh;rw [hC];show (D7 L [61] j).bind _=_;rw [hW];show (O9 L j2).bind _=_;rw [hT];rfl,rfl,by exact y6 (m:=E8 m c)⟩)

/-- What is asked of a part of a move that is a closure. -/
def u4 (L:List Tok) (o om g:Nat) (caps:List AV) (Hp:List AObj) (one:Mov→Nat→PR Mov):Prop:=
 ∀m i,MvLe m (2*i-1)→0<i→i<L.length→CP g caps (U2 L Hp o om i (mvO m)) (one m i) (fun m' j r H'=>r=Qx∧H'=U2 L Hp o om j (mvO m')) (W2 L o om Hp)
theorem Kj {L:List Tok} {Hp:List AObj} {o om i j:Nat} {x y:AObj} (hne:om≠o):U2 L (U2 L Hp o om i x) o om j y=U2 L Hp o om j y:=by
 unfold U2
 rw [AC1 hne,Bv]
theorem ADb {L:List Tok} {Hp H':List AObj} {o om i:Nat} {x:AObj} (hne:om≠o) (h:W2 L o om (U2 L Hp o om i x) H'):W2 L o om Hp H':=by
 obtain ⟨j,m,e⟩:=h
 exact ⟨j,m,by rw [e,Kj hne]⟩
theorem ARb (L:List Tok) (m:Mov) (i o om bp bm:Nat) (Hp:List AObj) (hne:om≠o) (ho:Hp[o]? = some (pmO L i)) (hm:Hp[om]? = some (mvO m)) (hbp:Hp[bp]? = some (.cells 107 [.ptr o 0])) (hbm:Hp[bm]? = some (.cells 194 [.ptr om 0])) (hi:i<L.length) (hl:TokEnd L) (hll:L.length≤500000) (hb:MvLe m (2*i-1)):CP 231 [.ptr bm 0,.ptr bp 0] Hp (Vr L m i) (fun m' j r H'=>r=Qx∧H'=U2 L Hp o om j (mvO m')) (W2 L o om Hp):=by
 refine ⟨fun hX=>?_⟩
 have n1:bp≠o:=fun e=>by rw [e,ho] at hbp;simp at hbp
 have n2:bp≠om:=fun e=>by rw [e,hm] at hbp;simp at hbp
 have n3:bm≠o:=fun e=>by rw [e,ho] at hbm;simp at hbm
 have n4:bm≠om:=fun e=>by rw [e,hm] at hbm;simp at hbm
 have:=hb.take;have:=hb.give;have:=hb.ahead;have:=hb.back
 refine Ae [] [0,1] Tryz.func231 Tryz.ntmps231 (fun d=>?_)
 refine W.flip Ak (by kernel_rfl) Tryz.zeroValue4 Tryz.sizeOf4 Tryz.isAgg4 (fun fb=>?_)
 refine ar [0,1,3] (by simp only [go_sem,↓reduceIte,Nat.reduceEqDiff,Nat.reduceAdd]<;>rfl) ?_
 refine A4 (fun ht3=>?_) (fun ht3=>?_)
 ·rcases hT:O9 L i with ⟨x,k⟩|⟨e,a⟩
  rotate_left
  ·exact AMk
  have hk:=Te hl hll hi hT
  refine W.drawZ0 [0,1,3,7,0,16,15,0,255,511,1023,2047] [3,5] [.q 3 [] [0],.s [7] (some 0) [] [],.q 1 [] [1],.s [9] (some 1) [] [],.q 2 [] []] (fun B=>U2 L Hp o om (if B 1=true then k else i) (if B 0=true then .cells 80 [A3 m.kind,.slice true 1 (m.take.map Ac),.slice true 2 (m.give.map C2),.slice true 6 (m.ahead.map A8),.slice false 6 (m.back.map A8)] else .cells 80 [A3 m.kind,.slice true 1 (m.take.map Ac),.slice true 2 (m.give.map C2),.slice true 6 (m.ahead.map A8),.slice true 6 (m.back.map A8)])) (fun _=>[.cells 4 [.v (.bool fb)]]) Ak (by kernel_rfl) (Tg ho hm) rfl (fun B=>U2_len) ?_
  apply Y.q
  ·intro B hT hF
   refine As (h:=Bh ((Hm n3 n4).trans hbm)) (hr:=?_)
   exact Z70
  case hTF=>decide
  refine Oy (o:=om) (t':=80) (cs:=[A3 m.kind,.slice true 1 (m.take.map Ac),.slice true 2 (m.give.map C2),.slice true 6 (m.ahead.map A8),.slice true 6 (m.back.map A8)]) (cs':=[A3 m.kind,.slice true 1 (m.take.map Ac),.slice true 2 (m.give.map C2),.slice true 6 (m.ahead.map A8),.slice false 6 (m.back.map A8)]) Tryz.isAgg25 (fun B hB=>⟨by simp only [hB];exact Fw hm,U2_setm.symm,rfl⟩) ?_
  apply Y.q
  ·intro B hT hF
   refine As (h:=Bh ((Hm n1 n2).trans hbp)) (hr:=?_)
   exact jl
  case hTF=>decide
  refine Nf (r:=A8 x) (o:=o) (x0:=pmO L i) (x:=pmO L k) Tryz.call230 (fun B hB1 hB2 hB=>⟨by simp only [hB];exact F0 ho hne,(Fm hne).symm,rfl,Ep,?_⟩) ?_
  ·simp only [hB]
   exact AMl
  apply Y.q
  ·intro B hT hF
   exact v8
  case hTF=>decide
  refine Y.put2 (tn:=[3,5]) (U:=U2 L Hp o om k (.cells 80 [A3 m.kind,.slice true 1 (m.take.map Ac),.slice true 2 (m.give.map C2),.slice true 6 (m.ahead.map A8),.slice false 6 (m.back.map A8)])) (O:=[.cells 4 [.v (.bool fb)]]) (o:=om) (t':=80) (cs:=[A3 m.kind,.slice true 1 (m.take.map Ac),.slice true 2 (m.give.map C2),.slice true 6 (m.ahead.map A8),.slice false 6 (m.back.map A8)]) jU Tryz.type27 Tryz.sizeOf27 Tryz.sizeOf25 jU (Ag (Fw hm)) ?_ ?_ ?_ (hfsz:=Tryz.sizeOf25)
  ·simp [Tryz.t27];omega
  ·simp [Tryz.t27];omega
  refine Z0 ?_
  refine G8 jS (Fw hm) ?_ ?_
  ·exact Rx
  exact AKt
 rcases hT:O9 L i with ⟨x,k⟩|⟨e,a⟩
 rotate_left
 ·exact AMk
 have hk:=Te hl hll hi hT
 refine Tw [0,0,2,6,14,0,32,96,254,511,1023,2047] [4,6] [.q 4 [] [],.s [20] (some 0) [] [],.q 1 [] [1],.s [22] (some 1) [] [],.q 1 [1] [],.s [20,24] none [0,1] []] (fun B=>U2 L Hp o om (if B 1=true then k else i) (if B 0=true then .cells 80 [A3 m.kind,.slice true 1 (m.take.map Ac),.slice true 2 (m.give.map C2),.slice true 6 (m.ahead.map A8),.slice false 6 (m.back.map A8)] else .cells 80 [A3 m.kind,.slice true 1 (m.take.map Ac),.slice true 2 (m.give.map C2),.slice true 6 (m.ahead.map A8),.slice true 6 (m.back.map A8)])) (fun _=>[.cells 4 [.v (.bool fb)]]) Ak (by kernel_rfl) (Tg ho hm) rfl (fun B=>U2_len) ?_
 apply Y.q
 ·intro B hT hF
  refine As (h:=Bh ((Hm n3 n4).trans hbm)) (hr:=?_)
  refine As (h:=Bh ((Hm n3 n4).trans hbm)) (hr:=?_)
  exact Z70
 case hTF=>decide
 refine Oy (o:=om) (t':=80) (cs:=[A3 m.kind,.slice true 1 (m.take.map Ac),.slice true 2 (m.give.map C2),.slice true 6 (m.ahead.map A8),.slice true 6 (m.back.map A8)]) (cs':=[A3 m.kind,.slice true 1 (m.take.map Ac),.slice true 2 (m.give.map C2),.slice true 6 (m.ahead.map A8),.slice false 6 (m.back.map A8)]) Tryz.isAgg25 (fun B hB=>⟨by simp only [hB];exact Fw hm,U2_setm.symm,rfl⟩) ?_
 apply Y.q
 ·intro B hT hF
  refine As (h:=Bh ((Hm n1 n2).trans hbp)) (hr:=?_)
  exact jl
 case hTF=>decide
 refine Nf (r:=A8 x) (o:=o) (x0:=pmO L i) (x:=pmO L k) Tryz.call230 (fun B hB1 hB2 hB=>⟨by simp only [hB];exact F0 ho hne,(Fm hne).symm,rfl,Ep,?_⟩) ?_
 ·simp only [hB]
  exact AMl
 apply Y.q
 ·intro B hT hF
  exact Z39
 case hTF=>decide
 refine Y.append jU Tryz.type27 ?_ ?_ ?_
 ·simp [Tryz.t27];omega
 ·simp [Tryz.t27];omega
 refine Er (tn:=[4,6]) (U:=U2 L Hp o om k (.cells 80 [A3 m.kind,.slice true 1 (m.take.map Ac),.slice true 2 (m.give.map C2),.slice true 6 (m.ahead.map A8),.slice false 6 (m.back.map A8)])) ?_;refine Z0 ?_
 refine G8 jS (Fw hm) ?_ ?_
 ·exact Rx
 exact AKt

theorem J2 {L:List Tok} {Hp:List AObj} {o om i j n:Nat} {x y:AObj} (hne:om≠o) (hy:ObjLow n y) (h:∀z∈U2 L Hp o om i x,ObjLow n z):∀z∈U2 L Hp o om j y,ObjLow n z:=by
 intro z hz
 rw [show U2 L Hp o om j y=((U2 L Hp o om i x).set o (pmO L j)).set om y by rw [Fm hne,U2_setm]] at hz
 rcases Lq hz with hz|rfl
 ·rcases Lq hz with hz|rfl
  ·exact h z hz
  exact Ep
 exact hy
theorem Fd {L:List Tok} {Hp own:List AObj} {o om i:Nat} {x:AObj} (h1:o<Hp.length) (h2:om<Hp.length):U2 L (Hp++own) o om i x=U2 L Hp o om i x++own:=by
 unfold U2
 rw [Kk _ _ h1,Kk _ _ (by simpa using h2)]
/-- Where the loop of things with commas between stands. -/
structure ListAt (L:List Tok) (n:Int) (one:Mov→Nat→PR Mov) (X:PR Mov) (x:Nat×Mov×Nat):Prop where
 lt:x.2.2<L.length
 pos:0<x.2.2
 le:MvLe x.2.1 (2*x.2.2)
 k:x.1≤x.2.2
 fuel:∃f,X=Tc L n one f x.1 x.2.1 x.2.2∧L.length-x.2.2<f
theorem ListAt.step {L:List Tok} {n:Int} {one:Mov→Nat→PR Mov} {X:PR Mov} {x:Nat×Mov×Nat} (h:ListAt L n one X x) (hq:Vq L n x.1 x.2.2=true):∃f,X=((D7 L [44] x.2.2).bind fun _ j=>(one x.2.1 j).bind fun m j=>Tc L n one f (x.1+1) m j)∧L.length-x.2.2<f+1:=by
 obtain ⟨f,e,hf⟩:=h.fuel
 obtain ⟨f,rfl⟩:∃g,f=g+1:=⟨f-1,by omega⟩
 refine ⟨f,?_,hf⟩
 rw [e,Tc,if_pos hq]
theorem ListAt.on {L:List Tok} (hl:TokEnd L) {n:Int} {one:Mov→Nat→PR Mov} (hP:aj L one) {X:PR Mov} {x:Nat×Mov×Nat} (h:ListAt L n one X x) (hq:Vq L n x.1 x.2.2=true) {u:Unit} {j:Nat} (hW:D7 L [44] x.2.2=.ok u j) {m2:Mov} {j2:Nat} (hO:one x.2.1 j=.ok m2 j2):ListAt L n one X (x.1+1,m2,j2)∧x.2.2<j2:=by
 obtain ⟨f,e,hf⟩:=h.step hq
 have h1:=Gy hl h.lt _ _ hW
 have hj:j=x.2.2+1:=by
  unfold D7 at hW
  split at hW
  ·injection hW with _ h;exact h.symm
  cases hW
 obtain ⟨a1,a2,a3⟩:=hP x.2.1 j (h.le.mono (by omega)) (by omega) h1.2 _ _ hO
 have:=h.k
 refine ⟨⟨a2,by show 0<j2;omega,a3,by show x.1+1≤j2;omega,f,?_,by show L.length-j2<f;omega⟩,by omega⟩
 rw [e,hW]
 show (one x.2.1 j).bind _=_
 rw [hO];rfl
theorem ListAt.bad1 {L:List Tok} {n:Int} {one:Mov→Nat→PR Mov} {X:PR Mov} {x:Nat×Mov×Nat} (h:ListAt L n one X x) (hq:Vq L n x.1 x.2.2=true) {e a:Int} (hW:D7 L [44] x.2.2=.bad e a):X=.bad e a:=by
 obtain ⟨f,e,_⟩:=h.step hq
 rw [e,hW];rfl
theorem ListAt.bad2 {L:List Tok} {n:Int} {one:Mov→Nat→PR Mov} {X:PR Mov} {x:Nat×Mov×Nat} (h:ListAt L n one X x) (hq:Vq L n x.1 x.2.2=true) {u:Unit} {j:Nat} (hW:D7 L [44] x.2.2=.ok u j) {e a:Int} (hO:one x.2.1 j=.bad e a):X=.bad e a:=by
 obtain ⟨f,e,_⟩:=h.step hq
 rw [e,hW]
 show (one x.2.1 j).bind _=_
 rw [hO];rfl
theorem ListAt.out {L:List Tok} {n:Int} {one:Mov→Nat→PR Mov} {X:PR Mov} {x:Nat×Mov×Nat} (h:ListAt L n one X x) (hq:Vq L n x.1 x.2.2=false):X=.ok x.2.1 x.2.2:=by
 obtain ⟨f,e,hf⟩:=h.fuel
 obtain ⟨f,rfl⟩:∃g,f=g+1:=⟨f-1,by omega⟩
 rw [e,Tc,if_neg (by rw [hq];simp)]
theorem ARc (L:List Tok) (m:Mov) (i o om bp bm:Nat) (Hp:List AObj) (hne:om≠o) (ho:Hp[o]? = some (pmO L i)) (hm:Hp[om]? = some (mvO m)) (hbp:Hp[bp]? = some (.cells 107 [.ptr o 0])) (hbm:Hp[bm]? = some (.cells 194 [.ptr om 0])) (hi:i<L.length) (hl:TokEnd L) (hll:L.length≤500000) (hb:MvLe m (2*i-1)):CP 196 [.ptr bm 0,.ptr bp 0] Hp (Td L m i) (fun m' j r H'=>r=Qx∧H'=U2 L Hp o om j (mvO m')) (W2 L o om Hp):=by
 refine ⟨fun hX=>?_⟩
 have n1:bp≠o:=fun e=>by rw [e,ho] at hbp;simp at hbp
 have n2:bp≠om:=fun e=>by rw [e,hm] at hbp;simp at hbp
 have n3:bm≠o:=fun e=>by rw [e,ho] at hbm;simp at hbm
 have n4:bm≠om:=fun e=>by rw [e,hm] at hbm;simp at hbm
 have:=hb.take;have:=hb.give;have:=hb.ahead;have:=hb.back
 refine Ae [] [0,1] Tryz.func196 Tryz.ntmps196 (fun d=>?_)
 rcases hT:Hr L i with ⟨s,k⟩|⟨e,a⟩
 rotate_left
 ·exact (D6 hX (by first|exact by unfold Td;rw [hT];rfl|exact hT)).elim
 have hk:=J1 hl hi _ _ hT
 refine Tw [0,0,2,6,14,0,32,96,254,511,1023,2047] [4,6] [.q 4 [] [],.s [6] (some 0) [] [],.q 1 [] [1],.s [8] (some 1) [] [],.q 1 [1] [],.s [6,10] none [0,1] []] (fun B=>U2 L Hp o om (if B 1=true then k else i) (if B 0=true then .cells 80 [A3 m.kind,.slice false 1 (m.take.map Ac),.slice true 2 (m.give.map C2),.slice true 6 (m.ahead.map A8),.slice true 6 (m.back.map A8)] else .cells 80 [A3 m.kind,.slice true 1 (m.take.map Ac),.slice true 2 (m.give.map C2),.slice true 6 (m.ahead.map A8),.slice true 6 (m.back.map A8)])) (fun _=>[]) Ak (by kernel_rfl) (Tg ho hm) rfl (fun B=>U2_len) ?_
 apply Y.q
 ·intro B hT hF
  refine As (h:=Bh ((Hm n3 n4).trans hbm)) (hr:=?_)
  refine As (h:=Bh ((Hm n3 n4).trans hbm)) (hr:=?_)
  exact Z70
 case hTF=>decide
 refine Oy (o:=om) (t':=80) (cs:=[A3 m.kind,.slice true 1 (m.take.map Ac),.slice true 2 (m.give.map C2),.slice true 6 (m.ahead.map A8),.slice true 6 (m.back.map A8)]) (cs':=[A3 m.kind,.slice false 1 (m.take.map Ac),.slice true 2 (m.give.map C2),.slice true 6 (m.ahead.map A8),.slice true 6 (m.back.map A8)]) Tryz.isAgg22 (fun B hB=>⟨by simp only [hB];exact Fw hm,U2_setm.symm,rfl⟩) ?_
 apply Y.q
 ·intro B hT hF
  refine As (h:=Bh ((Hm n1 n2).trans hbp)) (hr:=?_)
  exact jl
 case hTF=>decide
 refine Nf (r:=Ac s) (o:=o) (x0:=pmO L i) (x:=pmO L k) Tryz.call191 (fun B hB1 hB2 hB=>⟨by simp only [hB];exact F0 ho hne,(Fm hne).symm,rfl,Ep,?_⟩) ?_
 ·simp only [hB]
  exact (xy L i o _ (Ag (F0 ho hne)) hi hll).ok hT
 apply Y.q
 ·intro B hT hF
  exact Z39
 case hTF=>decide
 refine Y.append jU Tryz.type9 ?_ ?_ ?_
 ·simp [Tryz.t9];omega
 ·simp [Tryz.t9];omega
 refine Er (tn:=[4,6]) (U:=U2 L Hp o om k (.cells 80 [A3 m.kind,.slice false 1 (m.take.map Ac),.slice true 2 (m.give.map C2),.slice true 6 (m.ahead.map A8),.slice true 6 (m.back.map A8)])) ?_;refine Z0 ?_
 refine G8 jS (Fw hm) ?_ ?_
 ·simp [or_imp,forall_and]
 refine A2 [] ?_;exact F3 .nores (hp:=⟨tx m s,k,by unfold Td;rw [hT];rfl,rfl,by exact y8⟩)

theorem ARd (L:List Tok) (m:Mov) (i o om bp bm:Nat) (Hp:List AObj) (hne:om≠o) (ho:Hp[o]? = some (pmO L i)) (hm:Hp[om]? = some (mvO m)) (hbp:Hp[bp]? = some (.cells 107 [.ptr o 0])) (hbm:Hp[bm]? = some (.cells 194 [.ptr om 0])) (hi:i<L.length) (hl:TokEnd L) (hll:L.length≤500000) (hb:MvLe m (2*i-1)):CP 195 [.ptr bp 0,.ptr bm 0] Hp (Fh L m i) (fun m' j r H'=>r=Qx∧H'=U2 L Hp o om j (mvO m')) (W2 L o om Hp):=by
 refine ⟨fun hX=>?_⟩
 have hol:=(Ad.1 ho).1
 have hml:=(Ad.1 hm).1
 have n1:bp≠o:=fun e=>by rw [e,ho] at hbp;simp at hbp
 have n2:bp≠om:=fun e=>by rw [e,hm] at hbp;simp at hbp
 have n3:bm≠o:=fun e=>by rw [e,ho] at hbm;simp at hbm
 have n4:bm≠om:=fun e=>by rw [e,hm] at hbm;simp at hbm
 have:=hb.take;have:=hb.give;have:=hb.ahead;have:=hb.back
 refine Ae [] [0,1] Tryz.func195 Tryz.ntmps195 (fun d=>?_)
 refine AAm ?_
 rcases hT:Fh L m i with ⟨m2,k⟩|⟨e,a⟩
 rotate_left
 ·exact (D6 hX hT).elim
 refine Hj ?_
 refine A5 (h:=Bh ((Hm n1 n2).trans hbp)) (hr:=?_)
 refine A5 (h:=Bh ((Hm n3 n4).trans hbm)) (hr:=?_)
 refine H3 (up':=U2 L Hp o om k (mvO m2)) (own':=[]) Tryz.call190 (((AGq L m i o om _ hne (Ag (F0 ho hne)) (Ag (Fw hm)) hi hl hll hb).ok hT).mono (fun r H' e=>⟨e.1,e.2.trans (by rw [Gm,Gm,Kj hne])⟩)) (by rw [U2_len,U2_len]) (fun h=>J2 hne Gz h) ?_;refine A2 [] ?_;exact F3 .nores (hp:=⟨m2,k,rfl,rfl,rfl⟩)

theorem AK1 (L:List Tok) (n:Int) (m:Mov) (i o om g:Nat) (caps:List AV) (one:Mov→Nat→PR Mov) (Hp:List AObj) (hne:om≠o) (ho:Hp[o]? = some (pmO L i)) (hm:Hp[om]? = some (mvO m)) (h0:0<i) (hi:i<L.length) (hl:TokEnd L) (hll:L.length≤500000) (hb:MvLe m (2*i-1)) (hcall:∀args w,(callFunc g args).run Tryz.prog w=.ok (.enter g args) w) (hC:u4 L o om g caps Hp one) (hP:aj L one):CP 194 [.ptr o 0,A3 n,.fn (.func g) [] caps] Hp (Iz L n one m i) (fun m' j r H'=>r=Qx∧H'=U2 L Hp o om j (mvO m')) (W2 L o om Hp):=by
 refine ⟨fun hX=>?_⟩
 have hol:=(Ad.1 ho).1
 have hml:=(Ad.1 hm).1
 refine Ae [] [0,1,2] Tryz.func194 Tryz.ntmps194 (fun d=>?_)
 refine AAm ?_
 rcases h1:one m i with ⟨m1,j1⟩|⟨e,a⟩
 rotate_left
 ·exact (D6 hX (by first|exact by unfold Iz;rw [h1];rfl|exact h1)).elim
 have g1:=hP m i hb h0 hi _ _ h1
 have e0:Iz L n one m i=Tc L n one (L.length+1) 1 m1 j1:=by unfold Iz;rw [h1];rfl
 refine Z2 ?_
 refine R.callVX (up':=U2 L Hp o om j1 (mvO m1)) (own':=[]) hcall (by rw [Gm,Gm];exact (hC m i hb h0 hi).ok h1) (by rw [U2_len,U2_len]) (fun h=>J2 hne Gz h) ?_
 refine Zu ?_;refine Z2 ?_;refine A2 [0,1,2,6] ?_
 refine Bg (α:=Nat×Mov×Nat) (fun x=>⟨30,A6 0 (.ptr o 0) (A6 1 (A3 n) (A6 2 (.fn (.func g) [] caps) (A6 6 (A3 (x.1:Int)) (fun _=>.any)))),U2 L Hp o om x.2.2 (mvO x.2.1),[],[],none⟩) (fun x=>ListAt L n one (Iz L n one m i) x) (fun x=>L.length-x.2.2) ((1,m1,j1)) ⟨g1.2.1,by show 0<j1;omega,g1.2.2,by show 1≤j1;omega,_,e0,by show L.length-j1<_;omega⟩ (M8 _) rfl (fun x hx=>?_)
 refine Z7 ?_;refine Z85 ?_;refine Z73 ?_;refine C1 Tryz.call197 (fun hB=>ANx L [44] x.2.2 o _ (Ag (F0 ho hne)) hx.lt) ?_;refine fl ?_;refine A2 [0,1,2,6,23] ?_
 refine A4 (fun ht23=>?_) (fun ht23=>?_)
 ·have hq:Vq L n x.1 x.2.2=true:=ht23
  refine Tx ?_
  rcases hW:D7 L [44] x.2.2 with ⟨u,j⟩|⟨e,a⟩
  rotate_left
  ·exact (D6 hX (by first|exact hx.bad1 hq hW|exact hW)).elim
  have hj:=Gy hl hx.lt _ _ hW
  have hpos:=hx.pos
  refine Z2 ?_;refine Cj (x:=pmO L j) Tryz.call153 (F0 ho hne) (by simp) Ep ((qg L [44] x.2.2 o _ (Ag (F0 ho hne)) hx.lt hll).ok hW) ?_
  rw [Fm hne]
  refine A2 [0,1,2,6] ?_
  rcases hO:one x.2.1 j with ⟨m2,j2⟩|⟨e,a⟩
  rotate_left
  ·exact (D6 hX (by first|exact hx.bad2 hq hW hO|exact hO)).elim
  have hon:=hx.on hl hP hq hW hO
  refine Z52 ?_
  refine R.callVX (up':=U2 L Hp o om j2 (mvO m2)) (own':=[]) hcall (by rw [Gm,Gm];exact (hC x.2.1 j (hx.le.mono (by omega)) (by omega) hj.2).ok hO) (by rw [U2_len,U2_len]) (fun h=>J2 hne Gz h) ?_
  refine A2 [0,1,2,6] ?_;refine Z11 ?_;refine Z52 ?_
  refine A5 (h:=Tt (h2:=fun _=>by have:=hx.k;have:=hx.lt;omega)) (hr:=?_)
  refine A5 ?_;refine A2 [0,1,2,6] ?_
  refine Bm (x.1+1,m2,j2) hon.1 (by have:=hx.lt;have:=hon.2;show L.length-j2<L.length-x.2.2;omega) (Ds rfl)
 have hq:Vq L n x.1 x.2.2=false:=ht23
 have e:=hx.out hq
 refine Z59 ?_;refine K.lpE ?_;exact F3 .nores (hp:=⟨_,_,e,rfl,rfl⟩)

theorem CP.mono {g:FuncId} {args:List AV} {H:List AObj} {α:Type} {X:PR α} {Q Q':α→Nat→AV→List AObj→Prop} {R R':List AObj→Prop} (h:CP g args H X Q R) (hQ:∀c j r H',Q c j r H'→Q' c j r H') (hR:∀H',R H'→R' H'):CP g args H X Q' R':=
 ⟨fun hX=>(h.run hX).mono (fun r H' ⟨c,j,e,hq⟩=>⟨c,j,e,hQ _ _ _ _ hq⟩)⟩
section
variable {L:List Tok} {o om bp bm:Nat} {X:List AObj} {z z':AObj}
theorem y9 (hne:om≠o) (ho:X[o]? = some z) (hm:X[om]? = some z') (hbp:X[bp]? = some (.cells 107 [.ptr o 0])) (hbm:X[bm]? = some (.cells 194 [.ptr om 0])) (n1:bp≠o) (n2:bp≠om) (n3:bm≠o) (n4:bm≠om) (hl:TokEnd L) (hll:L.length≤500000):u4 L o om 231 [.ptr bm 0,.ptr bp 0] X (Vr L):=
 fun m i hb _ hi=>(ARb L m i o om bp bm (U2 L X o om i (mvO m)) hne (F0 ho hne) (Fw hm) ((Hm n1 n2).trans hbp) ((Hm n3 n4).trans hbm) hi hl hll hb).mono (fun c j r H' e=>⟨e.1,e.2.trans (Kj hne)⟩) (fun H' h=>ADb hne h)
theorem yb (hne:om≠o) (ho:X[o]? = some z) (hm:X[om]? = some z') (hbp:X[bp]? = some (.cells 107 [.ptr o 0])) (hbm:X[bm]? = some (.cells 194 [.ptr om 0])) (n1:bp≠o) (n2:bp≠om) (n3:bm≠o) (n4:bm≠om) (hl:TokEnd L) (hll:L.length≤500000):u4 L o om 196 [.ptr bm 0,.ptr bp 0] X (Td L):=
 fun m i hb _ hi=>(ARc L m i o om bp bm (U2 L X o om i (mvO m)) hne (F0 ho hne) (Fw hm) ((Hm n1 n2).trans hbp) ((Hm n3 n4).trans hbm) hi hl hll hb).mono (fun c j r H' e=>⟨e.1,e.2.trans (Kj hne)⟩) (fun H' h=>ADb hne h)
theorem yd (hne:om≠o) (ho:X[o]? = some z) (hm:X[om]? = some z') (hbp:X[bp]? = some (.cells 107 [.ptr o 0])) (hbm:X[bm]? = some (.cells 194 [.ptr om 0])) (n1:bp≠o) (n2:bp≠om) (n3:bm≠o) (n4:bm≠om) (hl:TokEnd L) (hll:L.length≤500000):u4 L o om 195 [.ptr bp 0,.ptr bm 0] X (Fh L):=
 fun m i hb _ hi=>(ARd L m i o om bp bm (U2 L X o om i (mvO m)) hne (F0 ho hne) (Fw hm) ((Hm n1 n2).trans hbp) ((Hm n3 n4).trans hbm) hi hl hll hb).mono (fun c j r H' e=>⟨e.1,e.2.trans (Kj hne)⟩) (fun H' h=>ADb hne h)
end
attribute [go_sem] U2_len
theorem ye {L:List Tok} {Hp own:List AObj} {o om i n:Nat} {x z:AObj} (h:own[n]? = some z):(U2 L Hp o om i x++own)[oid Hp.length n]? = some z:=by
 unfold oid
 rw [List.getElem?_append_right (by rw [U2_len];omega),U2_len,Nat.add_sub_cancel_left]
 exact h
theorem Kd {n k o:Nat} (h:o<n):oid n k≠o:=by unfold oid;omega
theorem AGr (L:List Tok) (m:Mov) (i o om:Nat) (Hp:List AObj) (hne:om≠o) (ho:Hp[o]? = some (pmO L i)) (hm:Hp[om]? = some (mvO m)) (hi:i<L.length) (hl:TokEnd L) (hll:L.length≤500000) (hb:MvLe m (2*i)):CP 192 [.ptr o 0,.ptr om 0] Hp (Gj L m i) (fun m' j r H'=>r=Qx∧H'=U2 L Hp o om j (mvO m')) (W2 L o om Hp):=by
 refine ⟨fun hX=>?_⟩
 have hol:=(List.getElem?_eq_some_iff.1 ho).1
 have hml:=(List.getElem?_eq_some_iff.1 hm).1
 refine ACall.body [] [0,1] Tryz.func192 Tryz.ntmps192 (fun d=>?_)
 refine AA7 ?_;refine R.box ?_;refine Jb ?_;refine AAm ?_
 rcases hW:D7 L ADa i with ⟨u,j⟩|⟨e,a⟩
 rotate_left
 ·exact (D6 hX (by first|exact by unfold Gj;rw [hW];rfl|exact hW)).elim
 have hj:=Gy hl hi _ _ hW
 refine Z2 ?_;refine R.callUp (x:=pmO L j) Tryz.call153 (F0 ho hne) (by simp) Ep ((qg L ADa i o _ (Ag (F0 ho hne)) hi hll).ok hW) ?_
 rw [Fm hne]
 refine Jb ?_
 rcases hP:Iz L ((m.take.map Ac).length:Int) (Vr L) m j with ⟨m2,k⟩|⟨e,a⟩
 rotate_left
 ·exact (D6 hX (by first|exact by unfold Gj;rw [hW];show Iz L _ _ m j=_;rw [←hP,List.length_map]|exact hP)).elim
 refine W.drawQ0 [0,0,2,6,14,30,0,127] 7 Ak (by kernel_rfl) ?_;refine W3 ?_
 refine D.go (h:=Q.loadUp (Fw hm)) (hr:=?_)
 refine D.go ?_;refine D.makeFunc ?_;refine D.tail ?_
 refine R.callX (up':=U2 L Hp o om k (mvO m2)) (own':=[.cells 107 [.ptr o 0],.cells 194 [.ptr om 0]]) Tryz.call194 (((AK1 L (((m.take.map Ac).length:Int)) m j o om 231 [.ptr (oid Hp.length 1) 0,.ptr (oid Hp.length 0) 0] (Vr L) (U2 L Hp o om j (mvO m)++[.cells 107 [.ptr o 0],.cells 194 [.ptr om 0]]) hne (Ag (F0 ho hne)) (Ag (Fw hm)) (by omega) hj.2 hl hll (hb.mono (by omega)) Tryz.call231 (y9 (z:=pmO L j) (z':=mvO m) hne (Ag (F0 ho hne)) (Ag (Fw hm)) (ye rfl) (ye rfl) (Kd hol) (Kd hml) (Kd hol) (Kd hml) hl hll) (md hl hll)).ok hP).mono (fun r H' e=>⟨e.1,e.2.trans (by first|rw [Fd (by rw [U2_len];exact hol) (by rw [U2_len];exact hml),Kj hne]|rw [Fd hol hml])⟩)) (by first|rfl|rw [U2_len,U2_len]|rw [U2_len]) (fun h=>J2 hne Gz h) ?_
 refine R.fin [] ?_;exact K.finN .nores (hp:=⟨m2,k,by unfold Gj;rw [hW];show Iz L _ _ m j=_;rw [←hP,List.length_map],rfl,rfl⟩)

theorem cz {L:List Tok} {Hp:List AObj} {o om i:Nat} {m:Mov} {s:Str} {x:AObj}:(U2 L Hp o om i x).set om (.cells 80 [A3 m.kind,.slice true 1 [Ac s],.slice true 2 (m.give.map C2),.slice true 6 (m.ahead.map A8),.slice true 6 (m.back.map A8)])=U2 L Hp o om i (mvO (takeS m s)):=U2_setm
theorem u5 {n:Nat} {x:Expr}:Low n (.slice true 6 [.agg (El x)]):=by
 have:=D5 (n:=n) (k:=6) (o:=true) (l:=[x])
 simp only [Bk,Dr] at this
 rw [Al] at this
 exact this
theorem mf {n:Nat} {x:Expr}:Low n (.slice true 6 [A8 x]):=D5 (l:=[x])
theorem ADc {L:List Tok} {m m1:Mov} {i k:Nat} (h:Fh L m i=.ok m1 k):(m1.give.map C2)[0]? = some (C2 (m1.give.getD 0 ⟨[],0⟩)):=by
 obtain ⟨c,j,h1,h2⟩:=Ze h
 obtain ⟨u,j2,h3,h4⟩:=Ze h2
 obtain ⟨x,j3,h5,h6⟩:=Ze h4
 injection h6 with h6 h7
 subst h6
 show ((m.give++[c]).map C2)[0]? = some (C2 ((m.give++[c]).getD 0 ⟨[],0⟩))
 cases m.give<;>rfl
section
variable {L:List Tok} {m:Mov} {i:Nat}
theorem ADd (h1:(m.kind==1)=true):J0 L m i=Fh L m i:=if_pos h1
theorem qh (h1:(m.kind==1)=false) (h2:(m.kind==2)=true):J0 L m i=(Hr L i).bind fun s j=>Gj L (takeS m s) j:=by
 unfold J0;rw [if_neg (by rw [h1];simp),if_pos h2]
theorem ADe (h1:(m.kind==1)=false) (h2:(m.kind==2)=false) (h3:(m.kind==3)=true):J0 L m i=Ky L m i:=by
 unfold J0;rw [if_neg (by rw [h1];simp),if_neg (by rw [h2];simp),if_pos h3]
theorem Zf (h1:(m.kind==1)=false) (h2:(m.kind==2)=false) (h3:(m.kind==3)=false) (h4:(m.kind==4)=true):J0 L m i=(Hr L i).bind fun s j=>(D7 L Ki j).bind fun _ j=>(Iz L 0 (Fh L) (takeS m s) j).bind fun m j=>Gj L m j:=by
 unfold J0;rw [if_neg (by rw [h1];simp),if_neg (by rw [h2];simp),if_neg (by rw [h3];simp),if_pos h4]
theorem Zg (h1:(m.kind==1)=false) (h2:(m.kind==2)=false) (h3:(m.kind==3)=false) (h4:(m.kind==4)=false) (h5:(m.kind==5)=true):J0 L m i=(Iz L 0 (Td L) m i).bind fun m j=>(D7 L Ki j).bind fun _ j=>(Fh L m j).bind fun m j=>Gj L m j:=by
 unfold J0;rw [if_neg (by rw [h1];simp),if_neg (by rw [h2];simp),if_neg (by rw [h3];simp),if_neg (by rw [h4];simp),if_pos h5]
theorem qi (h1:(m.kind==1)=false) (h2:(m.kind==2)=false) (h3:(m.kind==3)=false) (h4:(m.kind==4)=false) (h5:(m.kind==5)=false) (h6:(m.kind==6)=true):J0 L m i=(Fh L m i).bind fun m j=>Gj L (takeS m (m.give.getD 0 ⟨[],0⟩).name) j:=by
 unfold J0;rw [if_neg (by rw [h1];simp),if_neg (by rw [h2];simp),if_neg (by rw [h3];simp),if_neg (by rw [h4];simp),if_neg (by rw [h5];simp),if_pos h6]
theorem AK2 (h1:(m.kind==1)=false) (h2:(m.kind==2)=false) (h3:(m.kind==3)=false) (h4:(m.kind==4)=false) (h5:(m.kind==5)=false) (h6:(m.kind==6)=false):J0 L m i=.ok m i:=by
 unfold J0;rw [if_neg (by rw [h1];simp),if_neg (by rw [h2];simp),if_neg (by rw [h3];simp),if_neg (by rw [h4];simp),if_neg (by rw [h5];simp),if_neg (by rw [h6];simp)]
end
theorem ARe (L:List Tok) (m:Mov) (i o om:Nat) (Hp:List AObj) (hne:om≠o) (ho:Hp[o]? = some (pmO L i)) (hm:Hp[om]? = some (mvO m)) (hi:i<L.length) (hl:TokEnd L) (hll:L.length≤500000) (hb:MvLe m (2*i-1)):CP 193 [.ptr o 0,.ptr om 0] Hp (Ky L m i) (fun m' j r H'=>r=Qx∧H'=U2 L Hp o om j (mvO m')) (W2 L o om Hp):=by
 refine ⟨fun hX=>?_⟩
 refine Ae [] [0,1] Tryz.func193 Tryz.ntmps193 (fun d=>?_)
 refine AAm ?_
 rcases h1:Hr L i with ⟨s,j⟩|⟨e,a⟩
 rotate_left
 ·exact (D6 hX (by first|exact by unfold Ky;rw [h1];rfl|exact h1)).elim
 have hj:=J1 hl hi _ _ h1
 refine Z1 ?_;refine Cj (x:=pmO L j) Tryz.call191 (F0 ho hne) (by simp) Ep ((xy L i o _ (Ag (F0 ho hne)) hi hll).ok h1) ?_
 rw [Fm hne]
 refine Sd ?_;refine Z0 ?_
 refine G8 jS (Fw hm) ?_ ?_
 ·simp [or_imp,forall_and]
 refine A2 [0,1] ?_;refine Rw (U2_setm (y:=.cells 80 [A3 m.kind,.slice true 1 ([Ac s]),.slice true 2 (m.give.map C2),.slice true 6 (m.ahead.map A8),.slice true 6 (m.back.map A8)])) ?_
 rcases h2:D7 L toW j with ⟨u,j2⟩|⟨e,a⟩
 rotate_left
 ·exact (D6 hX (by first|exact by unfold Ky;rw [h1];show (D7 L toW j).bind _=_;rw [h2];rfl|exact h2)).elim
 have hj2:=Gy hl hj.2 _ _ h2
 refine Z2 ?_;refine Cj (x:=pmO L j2) Tryz.call153 (F0 ho hne) (by simp) Ep ((qg L toW j o _ (Ag (F0 ho hne)) hj.2 hll).ok h2) ?_
 rw [Fm hne]
 refine A2 [0,1] ?_
 rcases h3:Hr L j2 with ⟨t,k⟩|⟨e,a⟩
 rotate_left
 ·exact (D6 hX (by first|exact by unfold Ky;rw [h1];show (D7 L toW j).bind _=_;rw [h2];show (Hr L j2).bind _=_;rw [h3];rfl|exact h3)).elim
 refine Z2 ?_;refine Cj (x:=pmO L k) Tryz.call191 (F0 ho hne) (by simp) Ep ((xy L j2 o _ (Ag (F0 ho hne)) hj2.2 hll).ok h3) ?_
 rw [Fm hne]
 refine A5 ?_;refine A2 [1,4] ?_;refine AI8 ?_;refine Sd ?_;refine Z0 ?_
 refine G8 jS (Fw hm) ?_ ?_
 ·simp [or_imp,forall_and]
 refine A2 [1,4] ?_;refine Rw (U2_setm (y:=.cells 80 [A3 m.kind,.slice true 1 ([Ac s]),.slice true 2 ([C2 ⟨t,0⟩]),.slice true 6 (m.ahead.map A8),.slice true 6 (m.back.map A8)])) ?_;refine Z22 ?_;refine Z12 ?_
 refine A5 (h:=Bh (Fw hm)) (hr:=?_)
 refine A5 (h:=Ah (0) (Ac s) (fun _=>rfl)) (hr:=?_)
 refine A5 ?_;refine A9 Tryz.call209 (AFs s _) ?_;refine Sd ?_;refine A5 ?_;refine A9 Tryz.call209 (AFs t _) ?_;refine Sd ?_;refine Z0 ?_
 refine G8 jS (Fw hm) ?_ ?_
 ·first|exact u5|exact mf
 rw [U2_setm]
 refine Z0 ?_
 refine G8 jS (Fw hm) ?_ ?_
 ·first|exact u5|exact mf
 rw [U2_setm]
 refine A2 [] ?_;exact F3 .nores (hp:=⟨⟨m.kind,[s],[⟨t,0⟩],[Cu s],[Cu t]⟩,k,by unfold Ky;rw [h1];show (D7 L toW j).bind _=_;rw [h2];show (Hr L j2).bind _=_;rw [h3];rfl,rfl,by simp only [mvO,mvC,Bk,Dr,Al]⟩)

theorem yf {L:List Tok} {Hp:List AObj} {o om i:Nat} {m:Mov} {c:Col} {x:AObj}:(U2 L Hp o om i x).set om (.cells 80 [A3 m.kind,.slice true 1 [Ac c.name],.slice true 2 (m.give.map C2),.slice true 6 (m.ahead.map A8),.slice true 6 (m.back.map A8)])=U2 L Hp o om i (mvO (takeS m c.name)):=U2_setm
theorem ARf (L:List Tok) (m:Mov) (i o om:Nat) (Hp:List AObj) (hne:om≠o) (ho:Hp[o]? = some (pmO L i)) (hm:Hp[om]? = some (mvO m)) (hi:i<L.length) (hl:TokEnd L) (hll:L.length≤500000) (hb:MvLe m (2*i-1)) (h0:0<i):CP 152 [.ptr o 0,.ptr om 0] Hp (J0 L m i) (fun m' j r H'=>r=Qx∧H'=U2 L Hp o om j (mvO m')) (W2 L o om Hp):=by
 refine ⟨fun hX=>?_⟩
 have hol:=(Ad.1 ho).1
 have hml:=(Ad.1 hm).1
 refine Ae [] [0,1] Tryz.func152 Tryz.ntmps152 (fun d=>?_)
 refine AA7 ?_;refine R.box ?_;refine Jb ?_;refine AAm ?_;refine Z15 ?_
 refine A5 (h:=Bh (Fw hm)) (hr:=?_)
 refine A2 [2,3,7] ?_;refine W0 ?_;refine A2 [2,3,7,8] ?_
 refine A4 (fun ht8=>?_) (fun ht8=>?_)
 ·rcases h1:Fh L m i with ⟨m1,k⟩|⟨e,a⟩
  rotate_left
  ·exact (D6 hX (by first|exact by rw [ADd ht8];rw [h1]|exact h1)).elim
  refine Z22 ?_
  refine H3 (up':=U2 L Hp o om k (mvO m1)) (own':=[.cells 107 [.ptr o 0],.cells 194 [.ptr om 0]]) Tryz.call190 (((AGq L m i o om (U2 L Hp o om i (mvO m)++[.cells 107 [.ptr o 0],.cells 194 [.ptr om 0]]) hne (Ag (F0 ho hne)) (Ag (Fw hm)) hi hl hll hb).ok h1).mono (fun r H' e=>⟨e.1,e.2.trans (by first|rw [Fd (by rw [U2_len];exact hol) (by rw [U2_len];exact hml),Kj hne]|rw [Fd hol hml])⟩)) (by first|rfl|rw [U2_len,U2_len]|rw [U2_len]) (fun h=>J2 hne Gz h) ?_
  refine Vz ?_;exact F3 .nores (hp:=⟨m1,k,by rw [ADd ht8];rw [h1],rfl,rfl⟩)
 refine Z1 ?_;refine A2 [2,3,7,13] ?_
 refine A4 (fun ht13=>?_) (fun ht13=>?_)
 ·rcases h1:Hr L i with ⟨s,j⟩|⟨e,a⟩
  rotate_left
  ·exact (D6 hX (by first|exact by rw [qh ht8 ht13];rw [h1];rfl|exact h1)).elim
  have hj:=J1 hl hi _ _ h1
  refine Fj [0,0,2,6,15,31,63] [2] [.q 2 [] [],.s [17] (some 0) [] [],.s [18] none [0] []] (fun B=>U2 L Hp o om (if B 0=true then j else i) (mvO m)) (fun _=>[.cells 107 [.ptr o 0],.cells 194 [.ptr om 0]]) Ak (by kernel_rfl) rfl rfl (fun B=>by rw [U2_len];exact U2_len.symm) ?_
  apply Y.q
  ·intro B hT hF
   exact Z70
  case hTF=>decide
  refine Nf (r:=Ac s) (o:=o) (x0:=pmO L i) (x:=pmO L j) Tryz.call191 (fun B hB1 hB2 hB=>⟨by simp only [hB];exact F0 ho hne,(Fm hne).symm,rfl,Ep,?_⟩) ?_
  ·simp only [hB]
   exact (xy L i o _ (Ag (F0 ho hne)) hi hll).ok h1
  refine AL5 ?_;refine Z0 ?_
  refine G8 jS (Fw hm) ?_ ?_
  ·simp [or_imp,forall_and]
  refine Jb ?_;refine Rw (cz (m:=m) (s:=s)) ?_
  rcases h2:Gj L (takeS m s) j with ⟨m2,k⟩|⟨e,a⟩
  rotate_left
  ·exact (D6 hX (by first|exact by rw [qh ht8 ht13];rw [h1];show Gj L (takeS m s) j=_;rw [h2]|exact h2)).elim
  refine Z22 ?_
  refine H3 (up':=U2 L Hp o om k (mvO m2)) (own':=[.cells 107 [.ptr o 0],.cells 194 [.ptr om 0]]) Tryz.call192 (((AGr L (takeS m s) j o om (U2 L Hp o om j (mvO (takeS m s))++[.cells 107 [.ptr o 0],.cells 194 [.ptr om 0]]) hne (Ag (F0 ho hne)) (Ag (Fw hm)) hj.2 hl hll ((hb.mono (by omega:2*i-1≤2*j)).takeS (by omega))).ok h2).mono (fun r H' e=>⟨e.1,e.2.trans (by first|rw [Fd (by rw [U2_len];exact hol) (by rw [U2_len];exact hml),Kj hne]|rw [Fd hol hml])⟩)) (by first|rfl|rw [U2_len,U2_len]|rw [U2_len]) (fun h=>J2 hne Gz h) ?_
  refine Vz ?_;exact F3 .nores (hp:=⟨m2,k,by rw [qh ht8 ht13];rw [h1];show Gj L (takeS m s) j=_;rw [h2],rfl,rfl⟩)
 refine Z1 ?_;refine A2 [2,3,7,24] ?_
 refine A4 (fun ht24=>?_) (fun ht24=>?_)
 ·rcases h1:Ky L m i with ⟨m1,k⟩|⟨e,a⟩
  rotate_left
  ·exact (D6 hX (by first|exact by rw [ADe ht8 ht13 ht24];rw [h1]|exact h1)).elim
  refine Z22 ?_
  refine H3 (up':=U2 L Hp o om k (mvO m1)) (own':=[.cells 107 [.ptr o 0],.cells 194 [.ptr om 0]]) Tryz.call193 (((ARe L m i o om (U2 L Hp o om i (mvO m)++[.cells 107 [.ptr o 0],.cells 194 [.ptr om 0]]) hne (Ag (F0 ho hne)) (Ag (Fw hm)) hi hl hll hb).ok h1).mono (fun r H' e=>⟨e.1,e.2.trans (by first|rw [Fd (by rw [U2_len];exact hol) (by rw [U2_len];exact hml),Kj hne]|rw [Fd hol hml])⟩)) (by first|rfl|rw [U2_len,U2_len]|rw [U2_len]) (fun h=>J2 hne Gz h) ?_
  refine Vz ?_;exact F3 .nores (hp:=⟨m1,k,by rw [ADe ht8 ht13 ht24];rw [h1],rfl,rfl⟩)
 refine Z1 ?_;refine A2 [2,3,7,29] ?_
 refine A4 (fun ht29=>?_) (fun ht29=>?_)
 ·rcases h1:Hr L i with ⟨s,j⟩|⟨e,a⟩
  rotate_left
  ·exact (D6 hX (by first|exact by rw [Zf ht8 ht13 ht24 ht29];rw [h1];rfl|exact h1)).elim
  have hj:=J1 hl hi _ _ h1
  refine Fj [0,0,2,6,15,31,63] [2] [.q 2 [] [],.s [33] (some 0) [] [],.s [34] none [0] []] (fun B=>U2 L Hp o om (if B 0=true then j else i) (mvO m)) (fun _=>[.cells 107 [.ptr o 0],.cells 194 [.ptr om 0]]) Ak (by kernel_rfl) rfl rfl (fun B=>by rw [U2_len];exact U2_len.symm) ?_
  apply Y.q
  ·intro B hT hF
   exact Z70
  case hTF=>decide
  refine Nf (r:=Ac s) (o:=o) (x0:=pmO L i) (x:=pmO L j) Tryz.call191 (fun B hB1 hB2 hB=>⟨by simp only [hB];exact F0 ho hne,(Fm hne).symm,rfl,Ep,?_⟩) ?_
  ·simp only [hB]
   exact (xy L i o _ (Ag (F0 ho hne)) hi hll).ok h1
  refine AL5 ?_;refine Z0 ?_
  refine G8 jS (Fw hm) ?_ ?_
  ·simp [or_imp,forall_and]
  refine Jb ?_;refine Rw (cz (m:=m) (s:=s)) ?_
  rcases h2:D7 L Ki j with ⟨u,j2⟩|⟨e,a⟩
  rotate_left
  ·exact (D6 hX (by first|exact by rw [Zf ht8 ht13 ht24 ht29];rw [h1];show (D7 L Ki j).bind _=_;rw [h2];rfl|exact h2)).elim
  have hj2:=Gy hl hj.2 _ _ h2
  refine Z2 ?_;refine Cj (x:=pmO L j2) Tryz.call153 (F0 ho hne) (by simp) Ep ((qg L Ki j o _ (Ag (F0 ho hne)) hj.2 hll).ok h2) ?_
  rw [Fm hne]
  refine Jb ?_
  rcases h3:Iz L 0 (Fh L) (takeS m s) j2 with ⟨m1,j3⟩|⟨e,a⟩
  rotate_left
  ·exact (D6 hX (by first|exact by rw [Zf ht8 ht13 ht24 ht29];rw [h1];show (D7 L Ki j).bind _=_;rw [h2];show (Iz L 0 (Fh L) (takeS m s) j2).bind _=_;rw [h3];rfl|exact h3)).elim
  have hj3:=Tf hl (M3 hl hll) (takeS m s) j2 ((hb.mono (by omega:2*i-1≤2*j2-1)).takeS (by omega)) (by omega) hj2.2 _ _ h3
  refine Z2 ?_;refine Il ?_
  refine H3 (up':=U2 L Hp o om j3 (mvO m1)) (own':=[.cells 107 [.ptr o 0],.cells 194 [.ptr om 0]]) Tryz.call194 (((AK1 L (0) (takeS m s) j2 o om 195 [.ptr (oid Hp.length 0) 0,.ptr (oid Hp.length 1) 0] (Fh L) (U2 L Hp o om j2 (mvO (takeS m s))++[.cells 107 [.ptr o 0],.cells 194 [.ptr om 0]]) hne (Ag (F0 ho hne)) (Ag (Fw hm)) (by omega) hj2.2 hl hll ((hb.mono (by omega:2*i-1≤2*j2-1)).takeS (by omega)) Tryz.call195 (yd (z:=pmO L j2) (z':=mvO (takeS m s)) hne (Ag (F0 ho hne)) (Ag (Fw hm)) (ye rfl) (ye rfl) (Kd hol) (Kd hml) (Kd hol) (Kd hml) hl hll) (M3 hl hll)).ok h3).mono (fun r H' e=>⟨e.1,e.2.trans (by first|rw [Fd (by rw [U2_len];exact hol) (by rw [U2_len];exact hml),Kj hne]|rw [Fd hol hml])⟩)) (by first|rfl|rw [U2_len,U2_len]|rw [U2_len]) (fun h=>J2 hne Gz h) ?_
  refine Jb ?_
  rcases h4:Gj L m1 j3 with ⟨m2,k⟩|⟨e,a⟩
  rotate_left
  ·exact (D6 hX (by first|exact by rw [Zf ht8 ht13 ht24 ht29];rw [h1];show (D7 L Ki j).bind _=_;rw [h2];show (Iz L 0 (Fh L) (takeS m s) j2).bind _=_;rw [h3];show Gj L m1 j3=_;rw [h4]|exact h4)).elim
  refine Z22 ?_
  refine H3 (up':=U2 L Hp o om k (mvO m2)) (own':=[.cells 107 [.ptr o 0],.cells 194 [.ptr om 0]]) Tryz.call192 (((AGr L m1 j3 o om (U2 L Hp o om j3 (mvO m1)++[.cells 107 [.ptr o 0],.cells 194 [.ptr om 0]]) hne (Ag (F0 ho hne)) (Ag (Fw hm)) hj3.2.1 hl hll hj3.2.2).ok h4).mono (fun r H' e=>⟨e.1,e.2.trans (by first|rw [Fd (by rw [U2_len];exact hol) (by rw [U2_len];exact hml),Kj hne]|rw [Fd hol hml])⟩)) (by first|rfl|rw [U2_len,U2_len]|rw [U2_len]) (fun h=>J2 hne Gz h) ?_
  refine Vz ?_;exact F3 .nores (hp:=⟨m2,k,by rw [Zf ht8 ht13 ht24 ht29];rw [h1];show (D7 L Ki j).bind _=_;rw [h2];show (Iz L 0 (Fh L) (takeS m s) j2).bind _=_;rw [h3];show Gj L m1 j3=_;rw [h4],rfl,rfl⟩)
 refine Z1 ?_;refine A2 [2,3,7,45] ?_
 refine A4 (fun ht45=>?_) (fun ht45=>?_)
 ·rcases h1:Iz L 0 (Td L) m i with ⟨m1,j⟩|⟨e,a⟩
  rotate_left
  ·exact (D6 hX (by first|exact by rw [Zg ht8 ht13 ht24 ht29 ht45];rw [h1];rfl|exact h1)).elim
  have hj:=Tf hl (Zd hl) m i hb h0 hi _ _ h1
  refine Z2 ?_;refine Il ?_
  refine H3 (up':=U2 L Hp o om j (mvO m1)) (own':=[.cells 107 [.ptr o 0],.cells 194 [.ptr om 0]]) Tryz.call194 (((AK1 L (0) m i o om 196 [.ptr (oid Hp.length 1) 0,.ptr (oid Hp.length 0) 0] (Td L) (U2 L Hp o om i (mvO m)++[.cells 107 [.ptr o 0],.cells 194 [.ptr om 0]]) hne (Ag (F0 ho hne)) (Ag (Fw hm)) h0 hi hl hll hb Tryz.call196 (yb (z:=pmO L i) (z':=mvO m) hne (Ag (F0 ho hne)) (Ag (Fw hm)) (ye rfl) (ye rfl) (Kd hol) (Kd hml) (Kd hol) (Kd hml) hl hll) (Zd hl)).ok h1).mono (fun r H' e=>⟨e.1,e.2.trans (by first|rw [Fd (by rw [U2_len];exact hol) (by rw [U2_len];exact hml),Kj hne]|rw [Fd hol hml])⟩)) (by first|rfl|rw [U2_len,U2_len]|rw [U2_len]) (fun h=>J2 hne Gz h) ?_
  refine Jb ?_
  rcases h2:D7 L Ki j with ⟨u,j2⟩|⟨e,a⟩
  rotate_left
  ·exact (D6 hX (by first|exact by rw [Zg ht8 ht13 ht24 ht29 ht45];rw [h1];show (D7 L Ki j).bind _=_;rw [h2];rfl|exact h2)).elim
  have hj2:=Gy hl hj.2.1 _ _ h2
  have hj2e:=O2 h2
  refine Z2 ?_;refine Cj (x:=pmO L j2) Tryz.call153 (F0 ho hne) (by simp) Ep ((qg L Ki j o _ (Ag (F0 ho hne)) hj.2.1 hll).ok h2) ?_
  rw [Fm hne]
  refine Jb ?_
  rcases h3:Fh L m1 j2 with ⟨m2,j3⟩|⟨e,a⟩
  rotate_left
  ·exact (D6 hX (by first|exact by rw [Zg ht8 ht13 ht24 ht29 ht45];rw [h1];show (D7 L Ki j).bind _=_;rw [h2];show (Fh L m1 j2).bind _=_;rw [h3];rfl|exact h3)).elim
  have hj3:=M3 hl hll m1 j2 (hj.2.2.mono (by omega)) (by omega) hj2.2 _ _ h3
  refine Z1 ?_
  refine H3 (up':=U2 L Hp o om j3 (mvO m2)) (own':=[.cells 107 [.ptr o 0],.cells 194 [.ptr om 0]]) Tryz.call190 (((AGq L m1 j2 o om (U2 L Hp o om j2 (mvO m1)++[.cells 107 [.ptr o 0],.cells 194 [.ptr om 0]]) hne (Ag (F0 ho hne)) (Ag (Fw hm)) hj2.2 hl hll (hj.2.2.mono (by omega))).ok h3).mono (fun r H' e=>⟨e.1,e.2.trans (by first|rw [Fd (by rw [U2_len];exact hol) (by rw [U2_len];exact hml),Kj hne]|rw [Fd hol hml])⟩)) (by first|rfl|rw [U2_len,U2_len]|rw [U2_len]) (fun h=>J2 hne Gz h) ?_
  refine Jb ?_
  rcases h4:Gj L m2 j3 with ⟨m3,k⟩|⟨e,a⟩
  rotate_left
  ·exact (D6 hX (by first|exact by rw [Zg ht8 ht13 ht24 ht29 ht45];rw [h1];show (D7 L Ki j).bind _=_;rw [h2];show (Fh L m1 j2).bind _=_;rw [h3];show Gj L m2 j3=_;rw [h4]|exact h4)).elim
  refine Z22 ?_
  refine H3 (up':=U2 L Hp o om k (mvO m3)) (own':=[.cells 107 [.ptr o 0],.cells 194 [.ptr om 0]]) Tryz.call192 (((AGr L m2 j3 o om (U2 L Hp o om j3 (mvO m2)++[.cells 107 [.ptr o 0],.cells 194 [.ptr om 0]]) hne (Ag (F0 ho hne)) (Ag (Fw hm)) hj3.2.1 hl hll hj3.2.2).ok h4).mono (fun r H' e=>⟨e.1,e.2.trans (by first|rw [Fd (by rw [U2_len];exact hol) (by rw [U2_len];exact hml),Kj hne]|rw [Fd hol hml])⟩)) (by first|rfl|rw [U2_len,U2_len]|rw [U2_len]) (fun h=>J2 hne Gz h) ?_
  refine Vz ?_;exact F3 .nores (hp:=⟨m3,k,by rw [Zg ht8 ht13 ht24 ht29 ht45];rw [h1];show (D7 L Ki j).bind _=_;rw [h2];show (Fh L m1 j2).bind _=_;rw [h3];show Gj L m2 j3=_;rw [h4],rfl,rfl⟩)
 refine Z1 ?_;refine A2 [2,3,58] ?_
 refine A4 (fun ht58=>?_) (fun ht58=>?_)
 ·rcases h1:Fh L m i with ⟨m1,j⟩|⟨e,a⟩
  rotate_left
  ·exact (D6 hX (by first|exact by rw [qi ht8 ht13 ht24 ht29 ht45 ht58];rw [h1];rfl|exact h1)).elim
  have hj:=M3 hl hll m i hb h0 hi _ _ h1
  refine Z1 ?_
  refine H3 (up':=U2 L Hp o om j (mvO m1)) (own':=[.cells 107 [.ptr o 0],.cells 194 [.ptr om 0]]) Tryz.call190 (((AGq L m i o om (U2 L Hp o om i (mvO m)++[.cells 107 [.ptr o 0],.cells 194 [.ptr om 0]]) hne (Ag (F0 ho hne)) (Ag (Fw hm)) hi hl hll hb).ok h1).mono (fun r H' e=>⟨e.1,e.2.trans (by first|rw [Fd (by rw [U2_len];exact hol) (by rw [U2_len];exact hml),Kj hne]|rw [Fd hol hml])⟩)) (by first|rfl|rw [U2_len,U2_len]|rw [U2_len]) (fun h=>J2 hne Gz h) ?_
  refine Jb ?_;refine Fj [0,0,2,6,14,30,62,126,254,511,1023,2047] [] [.q 8 [] [],.s [71] none [] []] (fun _=>U2 L Hp o om j (mvO m1)) (fun _=>[.cells 107 [.ptr o 0],.cells 194 [.ptr om 0]]) Ak (by kernel_rfl) rfl rfl (fun B=>rfl) ?_
  apply Y.q
  ·intro B hT hF
   refine W3 ?_
   refine As (h:=Bh (Fw hm)) (hr:=?_)
   refine As (h:=Ah (0) (C2 (m1.give.getD 0 ⟨[],0⟩)) (fun _=>ADc h1)) (hr:=?_)
   exact Z70
  case hTF=>decide
  refine Y.buildSlice jU Tryz.sizeOf9 Tryz.zeroValue9 ?_;refine Er (tn:=[]) (U:=U2 L Hp o om j (mvO m1)) ?_;refine Z0 ?_
  refine G8 jS (Fw hm) ?_ ?_
  ·simp [or_imp,forall_and]
  refine Jb ?_;refine Rw (yf (m:=m1) (c:=m1.give.getD 0 ⟨[],0⟩)) ?_
  rcases h2:Gj L (takeS m1 (m1.give.getD 0 ⟨[],0⟩).name) j with ⟨m2,k⟩|⟨e,a⟩
  rotate_left
  ·exact (D6 hX (by first|exact by rw [qi ht8 ht13 ht24 ht29 ht45 ht58];rw [h1];show Gj L (takeS m1 (m1.give.getD 0 ⟨[],0⟩).name) j=_;rw [h2]|exact h2)).elim
  refine Z22 ?_
  refine H3 (up':=U2 L Hp o om k (mvO m2)) (own':=[.cells 107 [.ptr o 0],.cells 194 [.ptr om 0]]) Tryz.call192 (((AGr L (takeS m1 (m1.give.getD 0 ⟨[],0⟩).name) j o om (U2 L Hp o om j (mvO (takeS m1 (m1.give.getD 0 ⟨[],0⟩).name))++[.cells 107 [.ptr o 0],.cells 194 [.ptr om 0]]) hne (Ag (F0 ho hne)) (Ag (Fw hm)) hj.2.1 hl hll (hj.2.2.takeS (by omega))).ok h2).mono (fun r H' e=>⟨e.1,e.2.trans (by first|rw [Fd (by rw [U2_len];exact hol) (by rw [U2_len];exact hml),Kj hne]|rw [Fd hol hml])⟩)) (by first|rfl|rw [U2_len,U2_len]|rw [U2_len]) (fun h=>J2 hne Gz h) ?_
  refine Vz ?_;exact F3 .nores (hp:=⟨m2,k,by rw [qi ht8 ht13 ht24 ht29 ht45 ht58];rw [h1];show Gj L (takeS m1 (m1.give.getD 0 ⟨[],0⟩).name) j=_;rw [h2],rfl,rfl⟩)
 refine vf ?_;exact F3 .nores (hp:=⟨m,i,AK2 ht8 ht13 ht24 ht29 ht45 ht58,rfl,rfl⟩)

def ANz:Str:=[32,97,100,100,32,100,114,111,112,32,114,101,110,97,109,101,32,115,112,108,105,116,32,109,101,114,103,101,32,114,101,116,121,112,101]
theorem yg:P3 ANz [32]=migWords:=by kernel_rfl
theorem ARg (k:Int) (Hp:List AObj):AFun Tryz.prog 189 [A3 k] Hp (Ac (Ev k)):=by
 refine Ae [.tmp 2] [0] Tryz.func189 Tryz.ntmps189 (fun d=>?_)
 refine jf ?_;refine fl ?_;refine A2 [0,8] ?_
 refine A4 (fun ht8=>?_) (fun ht8=>?_)
 ·have hm:Ev k=[]:=if_pos ht8
  refine Z42 ?_;exact Z44
 have hm:Ev k=migWords.getD k.toNat []:=if_neg (by rw [ht8];simp)
 refine j9 ?_;refine A9 Tryz.call141 (AIl ANz [32] (by decide) (by decide) _) ?_
 rw [yg]
 refine A5 ?_
 have hk:1≤k∧k≤6:=by simp at ht8;omega
 have hget:(migWords.map Ac)[k.toNat]? = some (Ac (migWords.getD k.toNat [])):=by
  have hlt:k.toNat<migWords.length:=by show k.toNat<7;omega
  rw [C5,Ab hlt,Cc,Ab hlt]
  rfl
 refine A5 (h:=Ah (k.toNat) (Ac (migWords.getD k.toNat [])) (fun _=>hget)) (hr:=?_)
 refine Z65 ?_;exact AAi

theorem yh {s:Str} {x:Nat} (h:∀j:Nat,j<x→(Ev ((j:Int)+1)==s)=false) (hx:x<6) (he:(Ev ((x:Int)+1)==s)=true):Hv s=(x:Int)+1:=by
 have a:∀j:Nat,j<x→∀k:Int,k=(j:Int)+1→(Ev k==s)=false:=fun j hj k e=>by rw [e];exact h j hj
 have b:∀k:Int,k=(x:Int)+1→(Ev k==s)=true:=fun k e=>by rw [e];exact he
 have h6:x=0∨x=1∨x=2∨x=3∨x=4∨x=5:=by omega
 unfold Hv
 rcases h6 with rfl|rfl|rfl|rfl|rfl|rfl
 ·rw [if_pos (b 1 rfl)];rfl
 ·rw [if_neg (by rw [a 0 (by omega) 1 rfl];simp),if_pos (b 2 rfl)];rfl
 ·rw [if_neg (by rw [a 0 (by omega) 1 rfl];simp),if_neg (by rw [a 1 (by omega) 2 rfl];simp),if_pos (b 3 rfl)];rfl
 ·rw [if_neg (by rw [a 0 (by omega) 1 rfl];simp),if_neg (by rw [a 1 (by omega) 2 rfl];simp),if_neg (by rw [a 2 (by omega) 3 rfl];simp),if_pos (b 4 rfl)];rfl
 ·rw [if_neg (by rw [a 0 (by omega) 1 rfl];simp),if_neg (by rw [a 1 (by omega) 2 rfl];simp),if_neg (by rw [a 2 (by omega) 3 rfl];simp),if_neg (by rw [a 3 (by omega) 4 rfl];simp),if_pos (b 5 rfl)];rfl
 rw [if_neg (by rw [a 0 (by omega) 1 rfl];simp),if_neg (by rw [a 1 (by omega) 2 rfl];simp),if_neg (by rw [a 2 (by omega) 3 rfl];simp),if_neg (by rw [a 3 (by omega) 4 rfl];simp),if_neg (by rw [a 4 (by omega) 5 rfl];simp),if_pos (b 6 rfl)];rfl
theorem mg {s:Str} {x:Nat} (h:∀j:Nat,j<x→(Ev ((j:Int)+1)==s)=false) (he:(Ev ((x:Int)+1)==s)=false):∀j:Nat,j<x+1→(Ev ((j:Int)+1)==s)=false:=fun j hj=>by
 rcases Bp j x with h1|h1
 ·exact h j h1
 rw [show j=x by omega];exact he
theorem yi {s:Str} {x:Nat} (h:∀j:Nat,j<x→(Ev ((j:Int)+1)==s)=false) (hx:6≤x):Hv s=0:=by
 have a:∀j:Nat,j<6→∀k:Int,k=(j:Int)+1→(Ev k==s)=false:=fun j hj k e=>by rw [e];exact h j (by omega)
 unfold Hv
 rw [if_neg (by rw [a 0 (by omega) 1 rfl];simp),if_neg (by rw [a 1 (by omega) 2 rfl];simp),if_neg (by rw [a 2 (by omega) 3 rfl];simp),if_neg (by rw [a 3 (by omega) 4 rfl];simp),if_neg (by rw [a 4 (by omega) 5 rfl];simp),if_neg (by rw [a 5 (by omega) 6 rfl];simp)]
theorem ARh (s:Str) (Hp:List AObj):AFun Tryz.prog 151 [Ac s] Hp (A3 (Hv s)):=by
 refine Ae [.tmp 2] [0] Tryz.func151 Tryz.ntmps151 (fun d=>?_)
 refine Z41 ?_;refine Z31 ?_;refine Mn ?_
 refine Bg (α:=Nat) (fun x=>⟨13,A6 0 (Ac s) (A6 3 (A3 ((x:Nat)+1)) (fun _=>.any)),Hp,[],[],none⟩) (fun x=>∀j:Nat,j<x→(Ev ((j:Int)+1)==s)=false) (fun x=>6-x) (0) (fun j h=>by omega) (M8 _) rfl (fun x hx=>?_)
 refine Z7 ?_;refine A2 [0,3,5] ?_
 refine A4 (fun ht5=>?_) (fun ht5=>?_)
 ·have hx6:x<6:=by simp at ht5;omega
  refine Tx ?_;refine Z2 ?_;refine A9 Tryz.call189 (ARg _ _) ?_;refine Z0 ?_;refine A2 [0,3,11] ?_
  refine A4 (fun ht11=>?_) (fun ht11=>?_)
  ·refine Z1 ?_;refine Z4 ?_;refine Z51 ?_;exact Aa (Ai A7) ⟨by rw [yh hx hx6 ht11],rfl⟩
  refine jc ?_;refine Mn ?_
  refine Bm (x+1) (mg hx ht11) (by omega) (Ds rfl)
 have hx6:6≤x:=by simp at ht5;omega
 refine Sc ?_;refine Z42 ?_;exact Aa (Ai A7) ⟨by rw [yi hx hx6],rfl⟩

theorem AK3 {L:List Tok} {Hp own:List AObj} {o i n:Nat} {x:AObj} (h1:o<Hp.length):U2 L (Hp++own) o (oid Hp.length n) i x=Hp.set o (pmO L i)++own.set n x:=by
 unfold U2 oid
 rw [Kk _ _ h1,W7,if_neg (by simp),Dl,Pu]
theorem ADf {L:List Tok} {Hp:List AObj} {o i j n:Nat} (h:∀z∈Hp.set o (pmO L i),ObjLow n z):∀z∈Hp.set o (pmO L j),ObjLow n z:=by
 intro z hz
 rw [show Hp.set o (pmO L j)=(Hp.set o (pmO L i)).set o (pmO L j) by rw [Bv]] at hz
 rcases Lq hz with hz|rfl
 ·exact h z hz
 exact Ep
theorem ARi (L:List Tok) (i o:Nat) (Hp:List AObj) (ho:Hp[o]? = some (pmO L i)) (hi:i<L.length) (hl:TokEnd L) (hll:L.length≤500000):CP 117 [.ptr o 0] Hp (Pq L i) (fun m j r H'=>r=Ie m∧H'=Hp.set o (pmO L j)) (W1 L o Hp):=by
 refine ⟨fun hX=>?_⟩
 have hol:=(Ad.1 ho).1
 have hne:oid Hp.length 2≠o:=by unfold oid;omega
 refine Ae [.cell 2 80] [0] Tryz.func117 Tryz.ntmps117 (fun d=>?_)
 refine Z63 ?_;refine AIa ?_;refine iz ?_;refine Z1 ?_;refine A9 Tryz.call151 (ARh (Af L i).text _) ?_;refine Ou (places:=#[(0,1),(1,1),(2,1),(3,1),(4,1)]) jU (fun w=>by simp) jZ ?_;refine Z14 ?_;refine A2 [0,2,3,4] ?_;refine Z62 ?_;refine H5 2 1 1 ?_;refine H5 2 2 2 ?_;refine H5 2 3 6 ?_;refine H5 2 4 6 ?_;refine Z0 ?_;refine Z36 ?_;refine Z53 ?_;refine A2 [0,2,4,18] ?_
 refine A4 (fun ht18=>?_) (fun ht18=>?_)
 ·have e:Pq L i=.bad 8 (Af L i).at_:=if_pos ht18
  exact AAl
 have e0:Pq L i=(J0 L (⟨Hv (Af L i).text,[],[],[],[]⟩:Mov) (i+1)).bind fun m j=>(D7 L [59] j).bind fun _ j=>.ok m j:=if_neg (by rw [ht18];simp)
 have hi1:i+1<L.length:=hl.step hi (by simp only [E3,bne_eq_false_iff_eq] at ht18;rw [ht18.1];decide)
 refine Rb ?_
 refine A5 (h:=Bh ho) (hr:=?_)
 refine Z12 ?_
 refine Dp jS ho ?_ ?_
 ·simp
 refine A2 [0,2,4] ?_
 rcases hR:J0 L (⟨Hv (Af L i).text,[],[],[],[]⟩:Mov) (i+1) with ⟨m1,k⟩|⟨e,a⟩
 rotate_left
 ·exact (D6 hX (by first|exact by rw [e0];rw [hR];rfl|exact hR)).elim
 have hk:=tz hl hll (⟨Hv (Af L i).text,[],[],[],[]⟩:Mov) (i+1) ⟨Aq _,Aq _,Aq _,Aq _⟩ (by omega) hi1 _ _ hR
 refine Z2 ?_
 refine H3 (up':=Hp.set o (pmO L k)) (own':=[.cells 80 [A3 0,.nil,.nil,.nil,.nil],.cells 118 [.v (.int .i64 (Af L i).kind),.v (sv (Af L i).text),.v (.int .i64 ((Af L i).at_:Int))],mvO m1]) Tryz.call152 (((ARf L (⟨Hv (Af L i).text,[],[],[],[]⟩:Mov) (i+1) o (oid Hp.length 2) (Hp.set o (pmO L (i+1))++[.cells 80 [A3 0,.nil,.nil,.nil,.nil],.cells 118 [.v (.int .i64 (Af L i).kind),.v (sv (Af L i).text),.v (.int .i64 ((Af L i).at_:Int))],mvO (⟨Hv (Af L i).text,[],[],[],[]⟩:Mov)]) hne (by rw [D8 (by simpa using hol)];exact getset ho) (by unfold oid;rw [D9 (by simp)];simp) hi1 hl hll ⟨Aq _,Aq _,Aq _,Aq _⟩ (by omega)).ok hR).mono (fun r H' e=>⟨e.1,e.2.trans (by rw [show oid Hp.length 2=oid (Hp.set o (pmO L (i+1))).length 2 by simp];rw [AK3 (by simpa using hol),Bv];rfl)⟩)) (by simp) (fun h=>by simpa using ADf h) ?_
 refine A2 [0,2,4] ?_
 rcases hW:D7 L [59] k with ⟨u,j2⟩|⟨e,a⟩
 rotate_left
 ·exact (D6 hX (by first|exact by rw [e0];rw [hR];show (D7 L [59] k).bind _=_;rw [hW];rfl|exact hW)).elim
 refine Z2 ?_;refine Cj (x:=pmO L j2) Tryz.call153 (getset ho) (by simp) Ep ((qg L [59] k o _ (Ag (getset ho)) hk.2.1 hll).ok hW) ?_
 rw [Bv]
 refine A2 [2,4] ?_;refine Z2 ?_;refine Z38 ?_;exact Aa (Ai (B4 jA jS)) (hp:=⟨m1,j2,by rw [e0];rw [hR];show (D7 L [59] k).bind _=_;rw [hW];rfl,rfl,rfl⟩) (hlow:=l9)

/-- What mig.parser.moves comes to: the moves, or none and the fault. -/
def Ry (L:List Tok):List Mov×Int×Int:=match Kc L with
 | .ok l _=>(l,0,0)
 | .bad e a=>([],e,a)
abbrev i3 (L:List Tok):AV:=.tup [Fu (Ry L).1,.agg [A3 (Ry L).2.1,A3 (Ry L).2.2]]
theorem AGs {fc:Func} {r0 crest:Code} (hf:Tryz.prog.funcs[114]? = some fc) (hb:fc.body=some (.seq r0 crest)) (d a b:Nat) (H:List AObj):AW Tryz.prog (d+1) crest ⟨8,A6 2 (.v .nilIface) (A6 3 (.v .nilIface) (Go.SX.argsF [.ptr a 0,.ptr b 0])),H,[],[],none⟩ (fun e s2=>(e=.normal∨e=.ret)∧s2.defs=[]∧s2.up=H):=by
 have e:=Tryz.func114.symm.trans hf
 injection e with e
 subst e
 injection hb with hb
 injection hb with h1 h2
 subst h2
 refine ar [0,1,2] (by simp only [go_sem,↓reduceIte,Nat.reduceEqDiff,Nat.reduceAdd]<;>rfl) ?_
 refine Z2 ?_;refine R.neqNil0 jU ?_;refine A2 [0,1,2,5] ?_
 refine A4 (fun ht5=>?_) (fun ht5=>?_)
 ·cases ht5
 refine N7 ?_;exact ⟨.inl rfl,rfl,rfl⟩

/-- Where the loop of moves stands. -/
structure MovAt (L:List Tok) (x:List Mov×Nat):Prop where
 lt:x.2<L.length
 le:x.1.length≤8
 at_:Kc L=O1 L (9-x.1.length) x.1 x.2
theorem AGt {L:List Tok} (hl:TokEnd L) (hll:L.length≤500000) {i:Nat} (hi:i<L.length) {m:Mov} {j:Nat} (h:Pq L i=.ok m j):i<j∧j<L.length:=by
 unfold Pq at h
 split at h
 ·cases h
 rename_i h0
 have hi1:i+1<L.length:=hl.step hi (by
  simp only [Cx,not_or,Tk,bne_eq_false_iff_eq] at h0
  rw [h0.1];decide)
 obtain ⟨m1,k,h1,h2⟩:=Ze h
 obtain ⟨u,j2,h3,h4⟩:=Ze h2
 injection h4 with h5 h6
 subst h6
 obtain ⟨a1,a2,_⟩:=tz hl hll _ (i+1) ⟨Aq _,Aq _,Aq _,Aq _⟩ (by omega) hi1 _ _ h1
 obtain ⟨b1,b2⟩:=Gy hl a2 _ _ h3
 exact ⟨by omega,b2⟩
theorem Pr {L:List Tok} {l:List Mov} {i:Nat} (hl:l.length≤8):O1 L (9-l.length) l i=if (Af L i).kind != 0 then (if (l.length:Int)==8 then cx L i 3 else (Pq L i).bind fun m j=>O1 L (8-l.length) (l++[m]) j) else .ok l i:=by
 rw [show 9-l.length=(8-l.length)+1 by omega,O1]
theorem MovAt.out {L:List Tok} {x:List Mov×Nat} (h:MovAt L x) (hk:((Af L x.2).kind != 0)=false):Kc L=.ok x.1 x.2:=by
 rw [h.at_,Pr h.le,if_neg (by rw [hk];simp)]
theorem MovAt.long {L:List Tok} {x:List Mov×Nat} (h:MovAt L x) (hk:((Af L x.2).kind != 0)=true) (h8:((x.1.length:Int)==8)=true):Kc L=.bad 3 (Af L x.2).at_:=by
 rw [h.at_,Pr h.le,if_pos hk,if_pos h8];rfl
theorem MovAt.step {L:List Tok} {x:List Mov×Nat} (h:MovAt L x) (hk:((Af L x.2).kind != 0)=true) (h8:((x.1.length:Int)==8)=false):Kc L=(Pq L x.2).bind fun m j=>O1 L (8-x.1.length) (x.1++[m]) j:=by
 rw [h.at_,Pr h.le,if_pos hk,if_neg (by rw [h8];simp)]
theorem MovAt.bad {L:List Tok} {x:List Mov×Nat} (h:MovAt L x) (hk:((Af L x.2).kind != 0)=true) (h8:((x.1.length:Int)==8)=false) {e a:Int} (hM:Pq L x.2=.bad e a):Kc L=.bad e a:=by
 rw [h.step hk h8,hM];rfl
theorem MovAt.on {L:List Tok} (hl:TokEnd L) (hll:L.length≤500000) {x:List Mov×Nat} (h:MovAt L x) (hk:((Af L x.2).kind != 0)=true) (h8:((x.1.length:Int)==8)=false) {m:Mov} {j:Nat} (hM:Pq L x.2=.ok m j):MovAt L (x.1++[m],j)∧x.2<j:=by
 obtain ⟨a1,a2⟩:=AGt hl hll h.lt hM
 have h1:x.1.length≤7:=by
  have:=h.le
  simp only [beq_eq_false_iff_ne,ne_eq] at h8
  omega
 refine ⟨⟨a2,by show (x.1++[m]).length≤8;simp;omega,?_⟩,a1⟩
 rw [h.step hk h8,hM]
 show O1 L (8-x.1.length) (x.1++[m]) j=O1 L (9-(x.1++[m]).length) (x.1++[m]) j
 rw [show 9-(x.1++[m]).length=8-x.1.length by rw [At,Jn];omega]
theorem yj {L:List Tok} {l:List Mov} {i:Nat} (h:Kc L=.ok l i):i3 L=.tup [Fu l,.agg [A3 0,A3 0]]:=by unfold i3 Ry;rw [h]
theorem AGu {fn fc:Func} {x0 r1 y r0 crest:Code} (hf:Tryz.prog.funcs[67]? = some fn) (hb:fn.body=some (.seq x0 (.seq r1 y))) (hf2:Tryz.prog.funcs[114]? = some fc) (hb2:fc.body=some (.seq r0 crest)) (L:List Tok) (o:Nat) (Hp:List AObj) (ho:Hp[o]? = some (pmO L 0)) (hl:TokEnd L) (hll:L.length≤500000) (hX:∃l i,Kc L=.ok l i) (d:Nat):
  AW Tryz.prog (d+1) y ⟨21,A6 0 (.ptr o 0) (A6 2 (.ptr (oid Hp.length 0) 0) (A6 3 (.ptr (oid Hp.length 1) 0) (A6 4 (.fn (.func 114) [] [.ptr (oid Hp.length 0) 0,.ptr (oid Hp.length 1) 0]) fun _=>.any))),Hp,[.cells 31 [.nil],.cells 73 [A3 0,A3 0]],[],none⟩ (KG Tryz.prog crest 8 3 2 [.ptr (oid Hp.length 0) 0,.ptr (oid Hp.length 1) 0] [.cell 2 31,.cell 3 73] Hp.length (fun r H'=>r=i3 L∧∃i,H'=Hp.set o (pmO L i))):=by
 have e:=Tryz.func67.symm.trans hf
 injection e with e
 subst e
 injection hb with hb
 injection hb with h1 h2
 injection h2 with h2 h3
 subst h3
 refine ar [0,2,3] (by simp only [go_sem,↓reduceIte,Nat.reduceEqDiff,Nat.reduceAdd]<;>rfl) ?_
 refine Rw (Ce ho).symm ?_;refine K9 ?_
 refine Bg (α:=List Mov×Nat) (fun x=>⟨21,A6 0 (.ptr o 0) (A6 2 (.ptr (oid Hp.length 0) 0) (A6 3 (.ptr (oid Hp.length 1) 0) (fun _=>.any))),Hp.set o (pmO L x.2),[.cells 31 [.slice true 5 (x.1.map Ie)],.cells 73 [A3 0,A3 0]],[],none⟩) (fun x=>MovAt L x) (fun x=>L.length-x.2) (([],0)) ⟨hl.pos,by decide,rfl⟩ (StLe.nilCell (own:=[.cells 31 [.nil],.cells 73 [A3 0,A3 0]]) (n:=0) (j0:=0) (k:=5) (t:=31) (cs:=[.nil]) rfl rfl) rfl (fun x hx=>?_)
 refine Z31 ?_;refine A9 Tryz.call115 (AJz L x.2 o _ (Ag (getset ho)) hx.lt) ?_;refine Z0 ?_;refine A2 [0,2,3,8] ?_
 refine A4 (fun ht8=>?_) (fun ht8=>?_)
 ·have hk:((Af L x.2).kind != 0)=true:=ht8
  refine AAa ?_;refine Z30 ?_;refine A2 [0,2,3,11] ?_
  refine A4 (fun ht11=>?_) (fun ht11=>?_)
  ·have h8:((x.1.length:Int)==8)=true:=by rw [An] at ht11;exact ht11
   exact (D6 hX (hx.long hk h8)).elim
  have h8:((x.1.length:Int)==8)=false:=by rw [An] at ht11;exact ht11
  refine Z3 ?_
  rcases hM:Pq L x.2 with ⟨m,j⟩|⟨e,a⟩
  rotate_left
  ·exact (D6 hX (by first|exact hx.bad hk h8 hM|exact hM)).elim
  have hon:=hx.on hl hll hk h8 hM
  refine Tw [0,0,2,6,15,31] [0,2] [.s [14] (some 0) [] [],.q 1 [] [1],.s [16] (some 1) [] [],.q 1 [1] []] (fun B=>Hp.set o (pmO L (if B 1=true then j else x.2))) (fun B=>if B 0=true then [.cells 31 [.slice false 5 (x.1.map Ie)],.cells 73 [A3 0,A3 0]] else [.cells 31 [.slice true 5 (x.1.map Ie)],.cells 73 [A3 0,A3 0]]) Ak (by kernel_rfl) rfl rfl (fun B=>by simp) ?_
  refine Y.loadOwnT (u:=Hp.length) (n:=0) (t':=31) (cs:=[.slice true 5 (x.1.map Ie)]) (cs':=[.slice false 5 (x.1.map Ie)]) Tryz.isAgg31 (fun B hB=>⟨by simp,by simp only [hB];rfl,by simp only [hB];rfl,rfl⟩) ?_
  apply Y.q
  ·intro B hT hF
   exact Z56
  case hTF=>decide
  refine Nf (r:=Ie m) (o:=o) (x0:=pmO L x.2) (x:=pmO L j) Tryz.call117 (fun B hB1 hB2 hB=>⟨by simp only [hB];exact getset ho,by simp only [hB];exact (Bv ..).symm,rfl,Ep,?_⟩) ?_
  ·simp only [hB]
   exact ((ARi L x.2 o _ (Ag (getset ho)) hx.lt hl hll).ok hM)
  apply Y.q
  ·intro B hT hF
   exact Z39
  case hTF=>decide
  refine Er (tn:=[0,2]) (U:=Hp.set o (pmO L j)) (O:=[.cells 31 [.slice false 5 (x.1.map Ie)],.cells 73 [A3 0,A3 0]]) ?_
  refine Ek jU Tryz.type80 ?_ ?_ ?_
  ·simp [Tryz.t80];have:=hx.le;omega
  ·simp [Tryz.t80];have:=hx.le;omega
  refine X3 jS ?_;refine A2 [0,2,3] ?_;refine M9 ?_
  refine Bm (x.1++[m],j) hon.1 (by have:=hx.lt;have:=hon.2;show L.length-j<L.length-x.2;omega) (Ds (by simp [Bj,show Tryz.t80.size=5 from rfl]))
 have hk:((Af L x.2).kind != 0)=false:=ht8
 have e:=hx.out hk
 refine Sc ?_;refine Z2 ?_;refine Z21 ?_;refine Gs ?_;refine Z60 ?_;exact KG.fin .ret (B5 (Fp Tryz.isAgg31) (B4 Tryz.isAgg73 Tryz.sizeOf73)) (fun d=>AGs hf2 hb2 d _ _ _) ⟨(yj e).symm,x.2,rfl⟩ (hlow:=by simpa using (Iw (n:=Hp.length) (k:=5) (o:=false) (l:=x.1)))

theorem c67 (L:List Tok) (o:Nat) (Hp:List AObj) (ho:Hp[o]? = some (pmO L 0)) (hl:TokEnd L) (hll:L.length≤500000) (hX:∃l i,Kc L=.ok l i):ACall Tryz.prog 67 [.ptr o 0] Hp (fun r H'=>r=i3 L∧∃i,H'=Hp.set o (pmO L i)):=by
 refine ACall.guarded (n:=21) (nc:=8) (a:=3) (b:=2) (os:=[oid Hp.length 0,oid Hp.length 1]) (own0:=[.cells 31 [.nil],.cells 73 [A3 0,A3 0]]) (rs:=[.cell 2 31,.cell 3 73])
  (fr0:=A6 0 (.ptr o 0) (A6 2 (.ptr (oid Hp.length 0) 0) (A6 3 (.ptr (oid Hp.length 1) 0) fun _=>.any))) (fr1:=A6 0 (.ptr o 0) (A6 2 (.ptr (oid Hp.length 0) 0) (A6 3 (.ptr (oid Hp.length 1) 0) (A6 4 (.fn (.func 114) [] [.ptr (oid Hp.length 0) 0,.ptr (oid Hp.length 1) 0]) fun _=>.any))))
  Tryz.func67 rfl rfl Tryz.ntmps67 (by simp) Tryz.func114 rfl Tryz.ntmps114 rfl (by simp) (by decide) (by decide) Tryz.call114 (fun d=>?_) (fun d=>?_) rfl (fun d l=>?_)
 ·refine ar [0] (by simp only [go_sem,↓reduceIte,Nat.reduceEqDiff,Nat.reduceAdd]<;>rfl) ?_
  refine Hj ?_;refine P1 ?_;refine P1 ?_;refine A2 [0,2,3] ?_;exact ⟨rfl,rfl⟩
 ·refine Il ?_;refine A2 [0,2,3,4] ?_
  rfl
 exact @AGu { b:=ErrAt.b,bs:=ErrAt.bs,bd:=d+1,bl:=l } _ _ _ _ _ _ _ Tryz.func67 rfl Tryz.func114 rfl L o Hp ho hl hll hX d
theorem AK4 {s:Str} (h:((Bi s).2.1 != 0)=false):Zc s=Ry (Bi s).1:=by
 unfold Zc Ry
 rw [if_neg (by rw [h];simp)]
 cases Kc (Bi s).1<;>rfl
theorem c29 (s:Str) (hs:s.length≤1048576) (hz0:(Bi s).2.1=0) (hX:∃l i,Kc (Bi s).1=.ok l i) (Hp:List AObj):AFun Tryz.prog 29 [Ac s] Hp (.tup [Fu (Zc s).1,.agg [A3 (Zc s).2.1,A3 (Zc s).2.2]]):=by
 refine Ae [.tmp 2,.cell 3 73] [0] Tryz.func29 Tryz.ntmps29 (fun d=>?_)
 refine AA9 ?_;refine Mn ?_;refine Z2 ?_;refine A9 Tryz.call66 (c66 s hs _) ?_;refine Z12 ?_;refine AE4 ?_;refine A2 [3,4,5] ?_;refine Z30 ?_;refine A2 [3,4,5,13] ?_
 refine A4 (fun ht13=>?_) (fun ht13=>?_)
 ·rw [hz0] at ht13;cases ht13
 have hz:(Bi s).2.1=0:=by simpa using ht13
 have hle:=s8 hz
 have hlen:=sj hz
 have e:=AK4 ht13
 refine Z3 ?_;refine Z93 ?_;refine R.box ?_
 refine R.callEx (fun _=>Hp) (fun i=>[.cells 73 [A3 0,A3 0],.cells 73 [A3 (Bi s).2.1,A3 ((Bi s).2.2:Nat)],pmO (Bi s).1 i]) Tryz.call67 ((c67 (Bi s).1 (oid Hp.length 2) _ (by rw [Ax];rfl) hle (by omega) hX).mono (fun r H' ⟨e,i,h⟩=>⟨e,i,h.trans (by rw [Dm];rfl)⟩)) (fun _=>rfl) (fun _ h=>h) (fun i=>?_)
 refine Z12 ?_;refine Gs ?_;refine Z60 ?_;exact Aa (B5 A7 (B4 jA jS)) ⟨by rw [e],rfl⟩ (hlow:=by simpa using (Iw (n:=Hp.length) (k:=5) (o:=false) (l:=(Ry (Bi s).1).1)))

/-- Moves whose numbers are ones of 64 bits. -/
structure RngMv (m:Mov):Prop where
 ahead:∀e∈m.ahead,Dq Ge e=true
 back:∀e∈m.back,Dq Ge e=true
theorem mh {l:List Expr} (h20:l.length≤1048576) (h:l.any Pb=false) (hr:∀e∈l,Dq Ge e=true):OkEs l:=by
 have h1:∀e∈l,Slim e:=fun e he=>rx (by
  rw [If] at h
  simpa using h e he)
 exact ⟨h20,fun e he=>(h1 e he).ok,fun e he=>by have:=(h1 e he).size;omega,hr⟩
theorem yk {m:Mov} (h:Ll m=false) (hr:RngMv m):OkMov m:=by
 unfold Ll at h
 simp only [E3,decide_eq_false_iff_not] at h
 obtain ⟨⟨⟨⟨⟨⟨h1,h2⟩,h3⟩,h4⟩,h5⟩,h6⟩,h7⟩:=h
 have h50:m.give.length≤1000000:=by
  unfold Lx at h1
  simp only [E3,decide_eq_false_iff_not] at h1
  omega
 refine ⟨by omega,fun s hs=>?_,sg h1,h50,mh (by omega) h6 hr.ahead,mh (by omega) h7 hr.back⟩
 rw [If] at h5
 have:=h5 s hs
 simp only [decide_eq_true_eq] at this
 omega
theorem d7 {l:List Mov} (h:Iv l=false) (hr:∀m∈l,RngMv m):OkMovs l:=by
 unfold Iv at h
 simp only [E3,decide_eq_false_iff_not] at h
 refine ⟨by omega,fun m hm=>yk ?_ (hr m hm)⟩
 rw [If] at h
 simpa using h.2 m hm
def rwS:Str:=[114,101,110,97,109,101,32,97,32,116,111,32,98,59]
def rwT:Str:=[115,101,108,101,99,116,32,98,32,119,104,101,114,101,32,98,32,62,32,49,59]
def rwC:List Col:=[⟨[97],1⟩]
def rwQ:Qry:=⟨false,[[98]],Lp [62] (Cu [98]) (Nn ⟨1,1,[]⟩), -1⟩
theorem ADg:Mj rwT=(rwQ,0,0):=by kernel_rfl
theorem AGv:(Zc rwS).2.1=0:=by kernel_rfl
theorem AO0:QW rwQ:=by
 obtain ⟨h1,h2⟩:=cd (show Fs rwQ.whr=true by kernel_rfl)
 exact ⟨Hl (by decide) h1,by omega,by kernel_rfl,by decide,by decide⟩
theorem AK5 {l:List Mov} (h:(l.all fun m=>m.ahead.all (fun e=>Dq Ge e)&&m.back.all (fun e=>Dq Ge e))=true):∀m∈l,RngMv m:=fun m hm=>by
 have:=Az.1 h m hm
 rw [Ao] at this
 exact ⟨fun e he=>Az.1 this.1 e he,fun e he=>Az.1 this.2 e he⟩
theorem AO1:OkMovs (Zc rwS).1:=d7 (by kernel_rfl) (AK5 (by kernel_rfl))
theorem ARj:OkCols rwC:=⟨by simp [rwC],fun y hy=>by rw [Bo.1 hy];simp⟩
theorem ARk:(Eo rwQ rwC (Zc rwS).1).2=0:=by kernel_rfl
theorem AO2:(Eo rwQ rwC (Zc rwS).1).1.trees=[Cu [97]]:=by kernel_rfl
theorem ARl:(Eo rwQ rwC (Zc rwS).1).1.lim = -1:=by kernel_rfl
theorem AK6 (Hp:List AObj):AFun Tryz.prog 30 [Ac rwT] Hp (.tup [Rq rwQ,.agg [A3 0,A3 0]]):=by
 have:=c6 rwT (by decide) Hp
 rw [ADg] at this
 exact this
theorem ADh {c:List Col} (h:Lx c=false):c.length≤1000000:=by
 unfold Lx at h
 simp only [E3,decide_eq_false_iff_not] at h
 omega
theorem c7 (Hp:List AObj):AFun Tryz.prog 7 [] Hp (B0 true):=by
 refine Ae [.tmp 0] [] Tryz.func7 Tryz.ntmps7 (fun d=>?_)
 refine Z2 ?_;refine A2 [] ?_;refine Ez ?_;refine A9 Tryz.call29 (c29 rwS (by decide) (by kernel_rfl) (ANw (by kernel_rfl)) _) ?_;refine Z12 ?_;refine AE4 ?_;refine A2 [1,2] ?_;refine Ez ?_;refine A9 Tryz.call30 (AK6 _) ?_;refine Z82 ?_;refine Z14 ?_;refine Gs ?_;refine A2 [1,2,3,4] ?_;refine Z93 ?_;refine ey jU jS jZ ?_;refine A5 ?_;refine A9 Tryz.call11 (c11 rwQ AO0 rwC ARj (by decide) (Zc rwS).1 AO1 _) ?_;refine Ra ?_;refine A2 [2,4,5,6] ?_;refine Z23 ?_;refine Z73 ?_;refine Z36 ?_;refine Z85 ?_;refine Z36 ?_
 refine Cp (h:=Ah (0) (A8 (Cu [97])) (fun _=>by rw [AO2];rfl)) (hr:=?_)
 refine Z73 ?_;refine fj ?_;refine Z0 ?_;refine A2 [0] ?_;refine G5 ?_;exact Aa (Ai A7) ⟨by simp only [AGv,ARk,AO2,ARl]<;>rfl,rfl⟩

theorem c20 (c:List Col) (hc:OkCols c) (hc2:c.length≤1000000) (l:List Mov) (h:OkMovs l) (row:List Val) (hrr:∀v∈row, -9223372036854775808≤v.n∧v.n≤9223372036854775807) (hrl:row.length≤1048576) (Hp:List AObj):AFun Tryz.prog 20 [Ar c,Fu l,F4 row] Hp (.tup [F4 (Gu c l row).1,A3 (Gu c l row).2]):=by
 refine Ae [.tmp 6,.tmp 7] [0,1,2] Tryz.func20 Tryz.ntmps20 (fun d=>?_)
 refine Z1 ?_;refine Zu ?_;refine Z1 ?_;refine AId ?_;refine A2 [0,1,2,8,9] ?_;refine Z30 ?_;refine Z6 ?_;refine C1 Tryz.call47 (fun hB=>c47 c hc row hrl _) ?_;refine Z53 ?_;refine A2 [1,2,8,26] ?_
 refine A4 (fun ht26=>?_) (fun ht26=>?_)
 ·have hm:Gu c l row=([],1):=if_pos ht26
  refine Z2 ?_;refine Md 6 3 false ?_;refine Z94 ?_;exact Z32
 have hm0:Gu c l row=fwM c l row l.length:=if_neg (by rw [ht26];simp)
 have h26:((Cg c l).2 != 0)=false∧F9 c row=true:=by simpa using ht26
 obtain ⟨hmay,hst,hss⟩:=Gc h26.1
 have hR0:=m0 h26.2 hrr
 have hmvo:=Jl hmay
 have hlen:=h.len
 rw [hss]
 refine Qj ?_;refine A9 Tryz.call48 (c48 row hrl _) ?_;refine A5 ?_;refine A2 [1,8,10] ?_;refine Z30 ?_;refine A2 [8,10,29,30,31] ?_
 refine Bg (α:=Nat) (fun x=>⟨51,A6 8 (pm (Em c l l.length)) (A6 10 (F4 (fwM c l row x).1) (A6 29 (Fu l) (A6 30 (A3 (l.length:Nat)) (A6 31 (A3 (x:Nat)) (fun _=>.any))))),Hp,[],[],none⟩) (fun x=>x≤l.length∧(fwM c l row x).2=0∧RowI (colsAt c l x) (fwM c l row x).1) (fun x=>l.length-x) (0) ⟨Aq _,rfl,hR0⟩ (Bl (by simp [fwM])) rfl (fun x hx=>?_)
 refine Z2 ?_;refine A2 [8,10,29,30,31,32] ?_
 refine Co (fun ht32=>?_) (fun ht32=>?_)
 ·have hlt:x<l.length:=by simpa using ht32
  obtain ⟨hxl,hfx,hR⟩:=hx
  obtain ⟨m,hm⟩:∃m,m=l[x]:=⟨_,rfl⟩
  have hml:l[x]? = some m:=by rw [hm];exact Ab hlt
  have hmx:(l.map Ie)[x]? = some (Ie m):=by rw [hm];exact B7 hlt
  have hmo:=h.each m (Aw hml)
  have hmv:=hmvo m (Aw hml)
  have hCx:=Jj hc (fun m hm=>h.each m hm) x
  have htn:=T0 hst hml
  refine Qg ?_
  refine A5 (h:=Ah (x) (Ie m) (fun _=>hmx)) (hr:=?_)
  refine ja ?_;refine A2 [8,10,11,12,29,30,31] ?_;refine Ea [0,0,3,7,0,0,63,127,255,255,511,2047] 11 Ak (by kernel_rfl) ?_;refine Z8 ?_
  refine As (h:=Ah (x) (Ar (colsAt c l x)) (fun _=>AJc (Pm (by omega)))) (hr:=?_)
  refine Z33 ?_;refine Dx Tryz.call49 (c49 (colsAt c l x) hCx m hmo (fwM c l row x).1 hR.fine hR.len _) ?_;refine Z8 ?_;refine Z90 ?_;refine A5 ?_;refine A2 [8,9,10,29,30,31] ?_;refine Z1 ?_;refine A2 [8,9,10,29,30,31,47] ?_
  refine A4 (fun ht47=>?_) (fun ht47=>?_)
  ·have hm2:Gu c l row=([],(E1 (colsAt c l x) m (fwM c l row x).1).2):=by rw [hm0];exact AGc hml hfx (by simpa using ht47)
   refine Z1 ?_;refine Md 6 3 false ?_;refine Z94 ?_;refine Z51 ?_;exact Aa (B5 A7 A7) ⟨by rw [hm2]<;>rfl,rfl⟩
  have hnx:=T7 hml hfx
  have hok:(E1 (colsAt c l x) m (fwM c l row x).1).2=0:=by simpa using ht47
  have hRn:=Us htn hmv (fun e he=>hmo.ahead.rng e he) hR hok
  refine Z68 ?_;refine A2 [8,10,29,30,31] ?_
  refine Bm (x+1) ⟨hlt,by rw [hnx];exact hok,by rw [hnx,I9 hml];exact hRn⟩ (by omega) ?_
  rw [hnx]
  exact D0 (own:=[]) (fun _=>.refl _) (by repeat (first|exact Bc|refine Bb (by first|exact Eg|exact Jm|exact Qd|exact Iw|exact Ef|exact Ia|exact Low.ro _ Ny|(simp [or_imp,forall_and];done)) ?_)) (by simp) (by simp)
 have hxe:x=l.length:=by simp at ht32;have:=hx.1;omega
 subst hxe
 have hm1:Gu c l row=((fwM c l row l.length).1,0):=by rw [hm0];exact Pv rfl hx.2.1
 refine Z27 ?_;refine Z15 ?_;refine Z17 ?_;exact Aa (B5 A7 A7) ⟨by rw [hm1],rfl⟩ (hlow:=by simpa using (Jm (n:=Hp.length) (k:=3) (o:=false) (l:=(fwM c l row l.length).1)))

theorem i4 {c:List Col} {l:List Mov} {row:List Val} (h:OkMovs l) (hs:((Cg c l).2 != 0)=false) (h0:RowI c row):∀k,k≤l.length→(fwM c l row k).2=0→RowI (colsAt c l k) (fwM c l row k).1
 | 0,_,_=>h0
 | k+1,hk,he=>by
  obtain ⟨hmay,hst,_⟩:=Gc hs
  have h1:(fwM c l row k).2=0:=Hg fun hn=>by
   rw [Yy hn (k+1) (by omega)] at he
   exact hn he
  obtain ⟨m,hm⟩:∃m,l[k]? = some m:=⟨l[k],Ab (by omega)⟩
  have hml:=Aw hm
  have e:=T7 hm h1
  rw [e,I9 hm]
  exact Us (T0 hst hm) (Jl hmay m hml) (fun e he=>(h.each m hml).ahead.rng e he) (i4 h hs h0 k (by omega) h1) (by rw [←e];exact he)
/-! ImageJoins: rows forth and back, move by move. -/
theorem d8 {over:List Col}:∀{l:List Expr} {w:List Col},Cs over l w=0→∀(j:Nat) (x:Expr) (y:Col),l[j]? = some x→w[j]? = some y→Qk x over y.kind=0
 | [],_,_,j,x,y,h,_=>by simp at h
 | _::_,[],_,j,x,y,_,h=>by simp at h
 | a::l,b::w,h,j,x,y,h1,h2=>by
  rw [Cs] at h
  by_cases h0:(Qk a over b.kind != 0)=true
  ·rw [if_pos h0] at h
   rw [h] at h0
   cases h0
  rw [if_neg h0] at h
  cases j with
  | zero =>
   have e1:a=x:=by simpa using h1
   have e2:b=y:=by simpa using h2
   rw [←e1,←e2]
   simpa using h0
  | succ j=>exact d8 h j x y (by simpa using h1) (by simpa using h2)
theorem AGw {x:Expr} {c:List Col} {k:Int} {row:List Val} (h:Qk x c k=0) (hr:F9 c row=true) (he:(Br x c row).2=0):(Br x c row).1.kind=0∨(Br x c row).1.kind=k:=by
 unfold Qk at h
 by_cases h1:((Ft x c).2 != 0)=true
 ·rw [if_pos h1] at h
  rw [h] at h1
  cases h1
 rw [if_neg h1] at h
 have h1:(Ft x c).2=0:=by simpa using h1
 by_cases h2:(!Qu x c k)=true
 ·rw [if_pos h2] at h
  cases h
 have h2:Qu x c k=true:=by simpa using h2
 unfold Qu at h2
 simp only [Ao,Cx,beq_iff_eq] at h2
 have:=(xn h1 hr).kind he
 rcases h2.2 with h3|h3<;>omega
theorem qj {c:List Col} {m:Mov} (h:(C9 c m).2=0):Cs c m.ahead (Bt c m)=0∧Cs (C9 c m).1 m.back (Iu c m)=0:=by
 by_cases h1:((Dn c m.take (Bt c m)).2 != 0)=true
 ·rw [sw h1] at h
  rw [show (Dn c m.take (Bt c m)).2=0 from h] at h1
  cases h1
 have h1:((Dn c m.take (Bt c m)).2 != 0)=false:=by simpa using h1
 by_cases h2:(Cs c m.ahead (Bt c m) != 0)=true
 ·rw [sx h1 h2] at h
  rw [show Cs c m.ahead (Bt c m)=0 from h] at h2
  cases h2
 have h2:(Cs c m.ahead (Bt c m) != 0)=false:=by simpa using h2
 by_cases h3:(Cs (Dn c m.take (Bt c m)).1 m.back (Iu c m) != 0)=true
 ·rw [sy h1 h2 h3] at h
  rw [show Cs (Dn c m.take (Bt c m)).1 m.back (Iu c m)=0 from h] at h3
  cases h3
 have h3:(Cs (Dn c m.take (Bt c m)).1 m.back (Iu c m) != 0)=false:=by simpa using h3
 rw [t4 h1 h2 h3]
 exact ⟨by simpa using h2,by simpa using h3⟩
theorem Zh {c:List Col} {row:List Val}:∀{l:List Expr},(Be c row l).2=0→∀(j:Nat) (x:Expr),l[j]? = some x→(Br x c row).2=0∧(Be c row l).1[j]? = some (Br x c row).1
 | [],_,j,x,h=>by simp at h
 | a::r,h,j,x,hx=>by
  rw [Be] at h ⊢
  by_cases h1:((Br a c row).2 != 0)=true
  ·rw [if_pos h1] at h
   rw [show (Br a c row).2=0 from h] at h1
   cases h1
  rw [if_neg h1] at h ⊢
  by_cases h2:((Be c row r).2 != 0)=true
  ·rw [if_pos h2] at h
   rw [show (Be c row r).2=0 from h] at h2
   cases h2
  rw [if_neg h2]
  cases j with
  | zero =>
   have e1:a=x:=by simpa using hx
   rw [←e1]
   exact ⟨by simpa using h1,rfl⟩
  | succ j=>exact Zh (l:=r) (by simpa using h2) j x (by simpa using hx)
theorem d9 {take:List Str}:∀{c:List Col} {row:List Val},row.length=c.length→∀(i:Nat) (v:Val) (y:Col),(Fb take c row)[i]? = some v→(Di c take)[i]? = some y→∃j:Nat,row[j]? = some v∧c[j]? = some y
 | [],[],_,i,v,y,h,_=>by simp [Fb] at h
 | a::c,b::row,hl,i,v,y,h1,h2=>by
  have hl2:row.length=c.length:=by simpa using hl
  unfold Fb at h1
  unfold Di at h2
  rw [List.zip_cons_cons,Hh] at h1
  rw [Hh] at h2
  have ih:=d9 (take:=take) hl2
  by_cases ht:(!take.contains a.name)=true
  ·rw [if_pos ht] at h1 h2
   cases i with
   | zero=>exact ⟨0,by simpa using h1,by simpa using h2⟩
   | succ i =>
    obtain ⟨j,e1,e2⟩:=ih i v y (by simpa [Fb] using h1) (by simpa [Di] using h2)
    exact ⟨j+1,by simpa using e1,by simpa using e2⟩
  rw [if_neg ht] at h1 h2
  obtain ⟨j,e1,e2⟩:=ih i v y (by simpa [Fb] using h1) (by simpa [Di] using h2)
  exact ⟨j+1,by simpa using e1,by simpa using e2⟩
 | [],_::_,hl,_,_,_,_,_=>by simp at hl
 | _::_,[],hl,_,_,_,_,_=>by simp at hl
theorem mi {c:List Col} (h:D4 c=true):J3 c=true:=by
 unfold D4 at h
 simp only [Ao] at h
 exact h.2
/-- What comes forth is a row over the columns behind. -/
theorem ql {c:List Col} {m:Mov} {row:List Val} (ht:(C9 c m).2=0) (hm:I8 m=true) (hg:∀e∈m.ahead,Dq Ge e=true) (h:RowI c row) (hp:F9 c row=true) (hf:(E1 c m row).2=0):F9 (C9 c m).1 (E1 c m row).1=true:=by
 have hR:=Us ht hm hg h hf
 obtain ⟨e1,hrc,hrt⟩:=Sz ht
 obtain ⟨p1,p2,p3⟩:=row_iff.1 hp
 refine row_iff.2 ⟨mi hrt,hR.len,fun i v y hv hy=>?_⟩
 refine ⟨(hR.fine v (Aw hv)).plain,?_⟩
 have hk:(Be c row m.ahead).2=0:=by
  unfold E1 at hf
  by_cases h1:((Be c row m.ahead).2 != 0)=true
  ·rw [if_pos h1] at hf
   exact hf
  simpa using h1
 have ev:E1 c m row=(Fb m.take c row++(Be c row m.ahead).1,0):=if_neg (by rw [hk];simp)
 rw [ev] at hv
 rw [e1] at hy
 have hlen:=T6 (take:=m.take) h.len
 rcases Bp i (Fb m.take c row).length with hi|hi
 ·rw [D8 hi] at hv
  rw [D8 (by omega)] at hy
  obtain ⟨j,j1,j2⟩:=d9 h.len i v y hv hy
  exact (p3 j v y j1 j2).2
 rw [D9 hi] at hv
 rw [D9 (by omega),←hlen] at hy
 generalize i-(Fb m.take c row).length=j at hv hy
 have hj:j<m.ahead.length:=by
  have:=(Ad.1 hv).1
  rw [Ru hk] at this
  exact this
 obtain ⟨a1,a2⟩:=Zh hk j m.ahead[j] (Ab hj)
 rw [a2] at hv
 injection hv with hv
 rw [←hv]
 exact AGw (d8 (qj ht).1 j _ y (Ab hj) hy) hp a1
/-! Columns of parts of moves. -/
/-- Rows on the way forth are rows. -/
theorem u6 {c:List Col} {l:List Mov} {row:List Val} (h:OkMovs l) (hs:((Cg c l).2 != 0)=false) (h0:RowI c row) (hp:F9 c row=true):∀k,k≤l.length→(fwM c l row k).2=0→F9 (colsAt c l k) (fwM c l row k).1=true
 | 0,_,_=>hp
 | k+1,hk,he=>by
  obtain ⟨hmay,hst,_⟩:=Gc hs
  have h1:(fwM c l row k).2=0:=Hg fun hn=>by
   rw [Yy hn (k+1) (by omega)] at he
   exact hn he
  obtain ⟨m,hm⟩:∃m,l[k]? = some m:=⟨l[k],Ab (by omega)⟩
  have hml:=Aw hm
  have e:=T7 hm h1
  rw [e,I9 hm]
  exact ql (T0 hst hm) (Jl hmay m hml) (fun e he=>(h.each m hml).ahead.rng e he) (i4 h hs h0 k (by omega) h1) (u6 h hs h0 hp k (by omega) h1) (by rw [←e];exact he)
theorem ADi {c:List Col} {l:List Mov} {row:List Val} (hs:((Cg c l).2 != 0)=false) (hp:F9 c row=true):Gu c l row=fwM c l row l.length:=if_neg (by rw [hs,hp];simp)
/-! A row that went forth through a move comes back through it, where the trees back come to what was taken. -/
theorem qm {c:List Col} {m:Mov} {row:List Val} (hf:(E1 c m row).2=0):(Be c row m.ahead).2=0∧(E1 c m row).1=Fb m.take c row++(Be c row m.ahead).1:=by
 unfold E1 at hf ⊢
 split at hf
 ·rename_i h1
  rw [show (Be c row m.ahead).2=0 from hf] at h1
  cases h1
 rename_i h1
 rw [if_neg h1]
 exact ⟨by simpa using h1,rfl⟩
theorem ADj {x:Expr} {c:List Col} {l:List Val} (h:(Br x c l).2=0):Au x=true∧F9 c l=true∧Br x c l=Bw c l x:=by
 have h:(Sr B1 x c l).2=0:=h
 show _∧_∧Sr B1 x c l=_
 unfold Sr at h ⊢
 split at h
 ·cases h
 rename_i h1
 rw [if_neg h1]
 simp only [Cx,K6,not_or,dg] at h1
 exact ⟨h1.1,h1.2,rfl⟩
theorem i5 {x:Expr} {c:List Col} {l:List Val} (hx:Au x=true) (hr:F9 c l=true):Br x c l=Bw c l x:=by
 show Sr B1 x c l=_
 unfold Sr
 rw [if_neg (by rw [hx,hr];simp)]
theorem AGx {c:List Col} {l:List Val} {t:Str}:Bw c l (Cu t)=Pf c l t:=by
 show Fk B1 _ _ _=_
 rw [Mu]
 rfl
/-! Trees put in the columns' places keep the kinds, or are of none. -/
def Le0 (a b:Int):Prop:=a=b∨a=0
def LeL:List Int→List Int→Prop
 | [],[]=>True
 | a::r,b::s=>Le0 a b∧LeL r s
 | _,_=>False
theorem u7 {c c' k k':Int} (hc:Le0 c' c) (hk:Le0 k' k) (h:(F5 c k).2=true):(F5 c' k').2=true∧Le0 (F5 c' k').1 (F5 c k).1:=by
 unfold Le0 at *
 unfold F5 at *
 simp only [beq_iff_eq,Cx] at *
 repeat' split
 all_goals simp_all
 all_goals omega
theorem Wl:∀{ws ks ks':List Int} {c c' m:Int},LeL ks' ks→Le0 c' c→Gt ws ks c=some m→∃m',Gt ws ks' c'=some m'∧Le0 m' m
 | ws,[],[],c,c',m,_,hc,h=>by
  have e:∀z,Gt ws [] z=some z:=fun z=>by cases ws<;>rfl
  rw [e] at h
  injection h with h
  exact ⟨c',e c',h ▸ hc⟩
 | _,[],_::_,_,_,_,hl,_,_=>hl.elim
 | _,_::_,[],_,_,_,hl,_,_=>hl.elim
 | [],_::_,_::_,_,_,_,_,_,h=>by cases h
 | w::ws,k::ks,k'::ks',c,c',m,hl,hc,h=>by
  rw [Gt] at h ⊢
  cases hw2:w == -2 with
  | true =>
   rw [hw2,if_pos rfl] at h
   rw [if_pos rfl]
   exact Wl hl.2 hc h
  | false =>
   rw [hw2,if_neg (by simp)] at h
   rw [if_neg (by simp)]
   cases hw1:w == -1 with
   | true =>
    rw [hw1,if_pos rfl] at h
    rw [if_pos rfl]
    cases hm:(F5 c k).2 with
    | false=>rw [hm] at h;cases h
    | true =>
     rw [hm,if_pos rfl] at h
     have:=u7 hc hl.1 hm
     rw [this.1,if_pos rfl]
     exact Wl hl.2 this.2 h
   | false =>
    rw [hw1,if_neg (by simp)] at h
    rw [if_neg (by simp)]
    cases hm:(F5 w k).2 with
    | false=>rw [hm] at h;cases h
    | true =>
     rw [hm,if_pos rfl] at h
     have:=u7 (.inl rfl:Le0 w w) hl.1 hm
     rw [this.1,if_pos rfl]
     exact Wl hl.2 hc h
theorem qn {l:List (Int×Int)} (h:∀q∈l,q.2=0):l.find? (fun q=>q.2 != 0)=none:=M5.2 fun q hq=>by simpa using h q hq
theorem mj {c:List Col} {o:Int} {t:Str} {v:Val} {ks:List (Int×Int)} (h1:(o==1)=false) (h2:(o==2)=false) (h:∀q∈ks,q.2=0):Ms c o t v ks=Oa (Kf o t) (ks.map (·.1)):=by
 unfold Ms
 rw [h1,h2,qn h]
 rfl
theorem AGy {s:Sign} {ks ks':List Int} (hl:LeL ks' ks) (h:(Oa s ks).2=0):(Oa s ks').2=0∧Le0 (Oa s ks').1 (Oa s ks).1:=by
 unfold Oa at h ⊢
 cases hk:Gt s.kids ks 0 with
 | none=>rw [hk] at h;cases h
 | some m =>
  obtain ⟨m',e,hm⟩:=Wl hl (.inl rfl) hk
  rw [e]
  simp only
  split
  ·exact ⟨rfl,hm⟩
  exact ⟨rfl,.inl rfl⟩
mutual
theorem ml {c c0:List Col} {t:List Expr} (H:∀s,(Ir c s).2=0→(Ba c0 (t.getD (Ay s c).toNat Av)).2=0∧Le0 (Ba c0 (t.getD (Ay s c).toNat Av)).1 (Ir c s).1):∀x:Expr,Dq Es x=true→(Ba c x).2=0→∃y,putF c t x=some y∧(Ba c0 y).2=0∧Le0 (Ba c0 y).1 (Ba c x).1
 | .mk o s v k,hn,h=>by
  rw [Ip,Ao] at hn
  by_cases h1:(o==1)=true
  ·have ho:o=1:=by simpa using h1
   subst ho
   have hk:k=[]:=by
    have:=hn.1
    unfold Es at this
    rw [if_pos (show ((Expr.mk 1 s v k).op==1)=true from rfl),Ao] at this
    have h3:((k.length:Int)==0)=true:=this.2
    simpa using h3
   subst hk
   exact ⟨.mk 1 s v [],rfl,rfl,.inl rfl⟩
  have h1':(o==1)=false:=by simpa using h1
  by_cases h2:(o==2)=true
  ·have e:Ba c (.mk o s v k)=Ir c s:=by rw [Ba];unfold Ms;rw [if_neg h1,if_pos h2]
   rw [e] at h ⊢
   rw [putF,if_pos h2]
   have hf:¬Ay s c<0:=fun hf=>by unfold Ir at h;rw [if_pos hf] at h;cases h
   rw [if_neg hf]
   exact ⟨_,rfl,H s h⟩
  have h2':(o==2)=false:=by simpa using h2
  rw [Ba] at h ⊢
  have hk:=kt h h1' h2'
  obtain ⟨r,hr,hr2,hr3⟩:=da H k ((Ff _ _).1 hn.2) hk
  rw [mj h1' h2' hk] at h ⊢
  refine ⟨.mk o s v r,by rw [putF,if_neg h2,hr];rfl,?_⟩
  rw [Ba,mj h1' h2' hr2]
  exact AGy hr3 h
theorem da {c c0:List Col} {t:List Expr} (H:∀s,(Ir c s).2=0→(Ba c0 (t.getD (Ay s c).toNat Av)).2=0∧Le0 (Ba c0 (t.getD (Ay s c).toNat Av)).1 (Ir c s).1):∀l:List Expr,(∀e∈l,Dq Es e=true)→(∀q∈Mt c l,q.2=0)→∃r,Ib c t l=some r∧(∀q∈Mt c0 r,q.2=0)∧LeL ((Mt c0 r).map (·.1)) ((Mt c l).map (·.1))
  | [],_,_=>⟨[],rfl,fun q hq=>by simp [Mt] at hq,trivial⟩
  | e::l,hn,h=>by
    rw [Mt] at h
    obtain ⟨y,h1,h2,h3⟩:=ml H e (hn e Gw) (h _ Gw)
    obtain ⟨r,h4,h5,h6⟩:=da H l (fun x hx=>hn x (.tail _ hx)) (fun q hq=>h q (.tail _ hq))
    refine ⟨y::r,by rw [Ib,h1,h4];rfl,fun q hq=>?_,?_⟩
    · rw [Mt] at hq
      rcases B3.1 hq with rfl|hq
      · exact h2
      exact h5 q hq
    rw [Mt,Mt]
    exact ⟨h3,h6⟩
 end
/-- A tree that is of a column's kind, or of none. -/
structure FitX (c0:List Col) (e:Expr) (w:Int):Prop where
 right:Au e=true
 err:(Ba c0 e).2=0
 kind:Le0 (Ba c0 e).1 w
/-- Trees for columns, each of its column's kind. -/
structure FitT (c0 c:List Col) (t:List Expr):Prop where
 len:t.length=c.length
 each:∀p∈c.zip t,FitX c0 p.2 p.1.kind
theorem FitT.at {c0 c:List Col} {t:List Expr} (h:FitT c0 c t) {i:Nat} {y:Col} {e:Expr} (hy:c[i]? = some y) (he:t[i]? = some e):FitX c0 e y.kind:=
 h.each (y,e) (Aw (i:=i) (N0.2 ⟨hy,he⟩))
theorem FitT.rights {c0 c:List Col} {t:List Expr} (h:FitT c0 c t):∀e∈t,Au e=true:=fun e he=>by
 obtain ⟨i,hi⟩:=C6 he
 have hil:=(Ad.1 hi).1
 exact (h.at (Ab (by rw [←h.len];exact hil)) hi).right
theorem FitT.name {c0 c:List Col} {t:List Expr} (h:FitT c0 c t) (s:Str) (hs:(Ir c s).2=0):(Ba c0 (t.getD (Ay s c).toNat Av)).2=0∧Le0 (Ba c0 (t.getD (Ay s c).toNat Av)).1 (Ir c s).1:=by
 have hf:¬Ay s c<0:=fun hf=>by unfold Ir at hs;rw [if_pos hf] at hs;cases hs
 obtain ⟨j,y,hj,_,e⟩:=find_mem.1 hf
 have hjl:=(Ad.1 hj).1
 unfold Ir
 rw [if_neg hf,e,Int.toNat_natCast,Cc,Ab (by rw [h.len];exact hjl),Cc,hj]
 have:=h.at hj (Ab (by rw [h.len];exact hjl))
 exact ⟨this.err,this.kind⟩
theorem FitT.app {c0 c d:List Col} {t u:List Expr} (h:FitT c0 c t) (h2:FitT c0 d u):FitT c0 (c++d) (t++u):=by
 refine ⟨by rw [At,At,h.len,h2.len],?_⟩
 rw [List.zip_append h.len.symm]
 intro p hp
 rcases E4.1 hp with hp|hp
 ·exact h.each p hp
 exact h2.each p hp
theorem FitT.own {c:List Col} (h:D4 c=true):FitT c c (Ks c):=by
 obtain ⟨_,hok,hnd⟩:=kq (by rw [Mq];exact h)
 refine ⟨by simp [Ks],fun p hp=>?_⟩
 obtain ⟨i,hi⟩:=C6 hp
 rw [N0] at hi
 obtain ⟨h1,h2⟩:=hi
 unfold Ks at h2
 rw [C5,h1] at h2
 injection h2 with h2
 have hy:=Aw h1
 rw [←h2]
 have e:Ba c (Cu p.1.name)=(p.1.kind,0):=by rw [Pd];exact pe hnd hy rfl
 exact ⟨by rw [Ri,←I1];exact (hok _ hy).name,by rw [e],by rw [e];exact .inl rfl⟩
theorem AK7 {x:Expr} {c:List Col} {w:Int} (h:¬(Qk x c w != 0)=true):FitX c x w:=by
 have h0:Qk x c w=0:=by simpa using h
 unfold Qk at h0
 split at h0
 ·rename_i h1;exact absurd h0 (by simpa using h1)
 rename_i h1
 have h2:(Ft x c).2=0:=by simpa using h1
 obtain ⟨h3,_,h4⟩:=l6 h2
 split at h0
 ·cases h0
 rename_i h5
 have h6:Qu x c w=true:=by simpa using h5
 unfold Qu at h6
 rw [h4] at h6 h2
 simp only [Ao,Cx,beq_iff_eq] at h6
 exact ⟨h3,h6.1,h6.2⟩
theorem u9 {c:List Col}:∀{l:List Expr} {ws:List Col},Cs c l ws=0→∀p∈ws.zip l,FitX c p.2 p.1.kind
 | [],ws,_,p,hp=>by simp at hp
 | x::l,[],_,p,hp=>by simp at hp
 | x::l,w::ws,h,p,hp=>by
  rw [Cs] at h
  split at h
  ·rename_i h1;exact absurd h (by simpa using h1)
  rename_i h1
  rw [List.zip_cons_cons] at hp
  rcases B3.1 hp with rfl|hp
  ·exact AK7 h1
  exact u9 h p hp
/-- A tree over trees that fit. -/
theorem ADk {c0 c:List Col} {t:List Expr} {x:Expr} {w:Int} (hc:D4 c=true) (ht:FitT c0 c t) (hx:FitX c x w):((Cr x c t).2=0∨(Cr x c t).2=3)∧((Cr x c t).2=0→FitX c0 (Cr x c t).1 w):=by
 have hcm:J3 c=true:=by unfold D4 at hc;simp only [Ao] at hc;exact hc.2
 have h0:((((!(Au x)) || t.any E0) || !(Io c)) || ((c.length:Int) != (t.length:Int)))=false:=by
  rw [hx.right,Lz,hcm,ht.len]
  simp only [Hw,F1,Of,bne_self_eq_false]
  rw [If]
  intro e he
  unfold E0
  rw [ht.rights e he]
  simp
 obtain ⟨y,hy,hk,hle⟩:=ml ht.name x (Ns (by rw [←Ga];exact hx.right)) hx.err
 rw [ACk h0,hy]
 simp only
 split
 ·rename_i hr
  refine ⟨.inl rfl,fun _=>⟨hr,hk,?_⟩⟩
  have:=hx.kind
  unfold Le0 at hle this ⊢
  rcases hle with h|h
  ·rw [h];exact this
  exact .inr h
 exact ⟨.inr rfl,fun h=>absurd (show (3:Int)=0 from h) (by decide)⟩
theorem db {c0 c:List Col} {t:List Expr} (hc:D4 c=true) (ht:FitT c0 c t):∀{l:List Expr} {ws:List Col},l.length=ws.length→(∀p∈ws.zip l,FitX c p.2 p.1.kind)→((Ch c t l).2=0∨(Ch c t l).2=3)∧((Ch c t l).2=0→FitT c0 ws (Ch c t l).1)
 | [],[],_,_=>⟨.inl rfl,fun _=>⟨rfl,fun p hp=>by simp at hp⟩⟩
 | [],_::_,h,_=>by simp at h
 | _::_,[],h,_=>by simp at h
 | x::l,w::ws,hl,h=>by
  have h1:=ADk hc ht (h (w,x) (by simp))
  have h2:=db hc ht (l:=l) (ws:=ws) (by simpa using hl) (fun p hp=>h p (by rw [List.zip_cons_cons];exact .tail _ hp))
  unfold Ch
  split
  ·rename_i h3
   refine ⟨h1.1,fun e=>absurd e (by simpa using h3)⟩
  rename_i h3
  split
  ·rename_i h4
   exact ⟨h2.1,fun e=>absurd e (by simpa using h4)⟩
  rename_i h4
  refine ⟨.inl rfl,fun _=>?_⟩
  have a:=h1.2 (by simpa using h3)
  have b:=h2.2 (by simpa using h4)
  refine ⟨by simp [b.len],fun p hp=>?_⟩
  rw [List.zip_cons_cons] at hp
  rcases B3.1 hp with rfl|hp
  ·exact a
  exact b.each p hp
theorem ADl {c0 c:List Col} {t:List Expr} {take:List Str} (h:FitT c0 c t):FitT c0 (Di c take) (Do take c t):=by
 refine ⟨Jk h.len.symm,fun p hp=>?_⟩
 rw [cw h.len.symm,Uu] at hp
 obtain ⟨i,hi⟩:=C6 hp
 rw [N0,C5,C5] at hi
 cases hz:((c.zip t).filter fun p => !take.contains p.1.name)[i]? with
 | none=>rw [hz] at hi;cases hi.1
 | some q =>
  rw [hz] at hi
  have h1:q.1=p.1:=Option.some.inj hi.1
  have h2:q.2=p.2:=Option.some.inj hi.2
  rw [←h1,←h2]
  exact h.each q (W5.1 (Aw hz)).1
theorem yl {c:List Col} {m:Mov} (h:(C9 c m).2=0):Cs c m.ahead (Bt c m)=0∧Cs (C9 c m).1 m.back (Iu c m)=0:=by
 unfold C9 at h ⊢
 split at h
 ·rename_i h1;exact absurd h (by simpa using h1)
 rename_i h1
 rw [if_neg h1]
 split at h
 ·rename_i h2;exact absurd h (by simpa using h2)
 rename_i h2
 rw [if_neg h2]
 split at h
 ·rename_i h3;exact absurd h (by simpa using h3)
 rename_i h3
 rw [if_neg h3]
 exact ⟨by simpa using h2,by simpa using h3⟩
theorem Vs {c:List Col} {m:Mov} {r:List Mov}:∀k,colsAt c (m::r) (k+1)=colsAt (C9 c m).1 r k
 | 0=>rfl
 | k+1=>by rw [colsAt,Vs k,colsAt];rfl
theorem qq {c:List Col} {m:Mov} {r:List Mov}:colsAt c (m::r) (m::r).length=colsAt (C9 c m).1 r r.length:=Vs _
theorem Uv {c0:List Col}:∀(ms:List Mov) (c:List Col) (t:List Expr),D4 c=true→(∀m∈ms,I8 m=true)→(Ct c ms).2=0→FitT c0 c t→((Fv c t ms).2=0∨(Fv c t ms).2=3)∧((Fv c t ms).2=0→FitT c0 (colsAt c ms ms.length) (Fv c t ms).1)
 | [],c,t,_,_,_,ht=>⟨.inl rfl,fun _=>ht⟩
 | m::r,c,t,hc,hv,hs,ht=>by
  have h2:=qf hs
  have h3:=Sz h2.1
  have h4:=yl h2.1
  have h5:=I4 (Qa (hv m Gw))
  have h6:=db hc ht (l:=m.ahead) (ws:=Bt c m) (by rw [Ji];exact h5.1) (u9 h4.1)
  unfold Fv
  split
  ·rename_i h7
   exact ⟨h6.1,fun e=>absurd e (by simpa using h7)⟩
  rename_i h7
  rw [qq]
  exact Uv r _ _ h3.2.2 (fun x hx=>hv x (.tail _ hx)) h2.2 (by rw [h3.1];exact (ADl ht).app (h6.2 (by simpa using h7)))
/-! FuseForth: one tree does all moves. -/
theorem qr {f:Int→Str→List Val→Rs} {c c0:List Col} {l l0:List Val} {o:Int} {t:Str} {v:Val} {ks:List Rs} (h:(o==2)=false):K3 f c0 l0 o t v ks=K3 f c l o t v ks:=by
 unfold K3
 rw [h]
 rfl
mutual
theorem Uw {c c0:List Col} {t:List Expr} {l l0:List Val} (H:∀s,¬Ay s c<0→Bw c0 l0 (t.getD (Ay s c).toNat Av)=(l.getD (Ay s c).toNat noV,0)):∀x y:Expr,putF c t x=some y→Bw c0 l0 y=Bw c l x
 | .mk o s v k,y,h=>by
  rw [putF] at h
  by_cases h2:(o==2)=true
  ·rw [if_pos h2] at h
   have ho:o=2:=by simpa using h2
   subst ho
   split at h
   ·cases h
   rename_i hf
   injection h with h
   subst h
   rw [H s hf]
   show _=Fk B1 c l _
   rw [Mu]
   show _=Pf c l s
   unfold Pf
   rw [if_neg hf]
  have h2':(o==2)=false:=by simpa using h2
  rw [if_neg h2] at h
  cases hk:Ib c t k with
  | none=>rw [hk] at h;cases h
  | some r =>
   rw [hk] at h
   injection h with h
   subst h
   show Fk B1 c0 l0 _=Fk B1 c l _
   rw [Mu,Mu]
   show K3 B1 c0 l0 o s v (r.map _)=K3 B1 c l o s v (k.map _)
   rw [Zi H k r hk,qr (c:=c) (l:=l) h2']
theorem Zi {c c0:List Col} {t:List Expr} {l l0:List Val} (H:∀s,¬Ay s c<0→Bw c0 l0 (t.getD (Ay s c).toNat Av)=(l.getD (Ay s c).toNat noV,0)):∀k r:List Expr,Ib c t k=some r→r.map (Fk B1 c0 l0)=k.map (Fk B1 c l)
  | [],r,h=>by
    rw [Ib] at h
    injection h with h
    subst h
    rfl
  | e::k,r,h=>by
    rw [Ib] at h
    cases h1:putF c t e with
    | none=>rw [h1] at h;cases h
    | some y =>
      rw [h1] at h
      cases h2:Ib c t k with
      | none=>simp only [h2] at h;cases h
      | some s =>
        simp only [h2] at h
        injection h with h
        subst h
        rw [Bk,Bk,Zi H k s h2]
        exact congrArg (·::_) (Uw H e y h1)
 end
/-- Trees that come, over a row, to the values of another one. -/
structure Comes (c0:List Col) (l0:List Val) (t:List Expr) (r:List Val):Prop where
 len:t.length=r.length
 each:∀(j:Nat) (e:Expr) (v:Val),t[j]? = some e→r[j]? = some v→Br e c0 l0=(v,0)
theorem Comes.name {c0 c:List Col} {l0 r:List Val} {t:List Expr} (h:Comes c0 l0 t r) (hl:r.length=c.length) (s:Str) (hs:¬Ay s c<0):Bw c0 l0 (t.getD (Ay s c).toNat Av)=(r.getD (Ay s c).toNat noV,0):=by
 obtain ⟨j,hj,hjl⟩:=Gi hs
 have ht:=h.len
 have h1:t[j]? = some (t.getD j Av):=by rw [Cc,Ab (by omega)];rfl
 have h2:r[j]? = some (r.getD j noV):=by rw [Cc,Ab (by omega)];rfl
 have:=h.each j _ _ h1 h2
 rw [hj,Int.toNat_natCast,←(ADj (by rw [this])).2.2,this]
/-- A tree over trees comes to what the tree comes to over their values. -/
theorem Comes.over {c0 c:List Col} {l0 r:List Val} {t:List Expr} (h:Comes c0 l0 t r) (hl:r.length=c.length) (h0:F9 c0 l0=true) {x:Expr} (ho:(Cr x c t).2=0) (hx:(Br x c r).2=0):Br (Cr x c t).1 c0 l0=Br x c r:=by
 obtain ⟨_,_,e⟩:=ADj hx
 unfold Cr at ho ⊢
 split at ho
 ·cases ho
 rename_i h1
 rw [if_neg h1]
 cases hp:putF c t x with
 | none=>rw [hp] at ho;cases ho
 | some y =>
  rw [hp] at ho
  simp only at ho ⊢
  split at ho
  ·rename_i hr
   rw [if_pos hr,i5 hr h0,e]
   exact Uw (h.name hl) x y hp
  cases ho
theorem Comes.overs {c0 c:List Col} {l0 r:List Val} {t:List Expr} (h:Comes c0 l0 t r) (hl:r.length=c.length) (h0:F9 c0 l0=true):∀{l:List Expr},(Ch c t l).2=0→(Be c r l).2=0→Comes c0 l0 (Ch c t l).1 (Be c r l).1
 | [],_,_=>⟨rfl,fun j e v h1=>by cases h1⟩
 | x::l,ho,hr=>by
  rw [Ch] at ho ⊢
  rw [Be] at hr ⊢
  by_cases a1:((Cr x c t).2 != 0)=true
  ·rw [if_pos a1] at ho
   rw [show (Cr x c t).2=0 from ho] at a1
   cases a1
  rw [if_neg a1] at ho ⊢
  by_cases a2:((Ch c t l).2 != 0)=true
  ·rw [if_pos a2] at ho
   rw [show (Ch c t l).2=0 from ho] at a2
   cases a2
  rw [if_neg a2]
  by_cases b1:((Br x c r).2 != 0)=true
  ·rw [if_pos b1] at hr
   rw [show (Br x c r).2=0 from hr] at b1
   cases b1
  rw [if_neg b1] at hr ⊢
  by_cases b2:((Be c r l).2 != 0)=true
  ·rw [if_pos b2] at hr
   rw [show (Be c r l).2=0 from hr] at b2
   cases b2
  rw [if_neg b2]
  have ih:=h.overs hl h0 (l:=l) (by simpa using a2) (by simpa using b2)
  refine ⟨by simp [ih.len],fun j e v h1 h2=>?_⟩
  cases j with
  | zero =>
   have e1:(Cr x c t).1=e:=by simpa using h1
   have e2:(Br x c r).1=v:=by simpa using h2
   have hx:(Br x c r).2=0:=by simpa using b1
   rw [←e1,h.over hl h0 (by simpa using a1) hx]
   exact Pv e2 hx
  | succ j=>exact ih.each j e v (by simpa using h1) (by simpa using h2)
theorem dc {take:List Str}:∀{c:List Col} {t:List Expr} {r:List Val},t.length=c.length→r.length=c.length→∀(j:Nat) (e:Expr) (v:Val),(Do take c t)[j]? = some e→(Fb take c r)[j]? = some v→∃i:Nat,t[i]? = some e∧r[i]? = some v
 | [],[],[],_,_,j,e,v,h,_=>by simp [Do] at h
 | [],_::_,_,h,_,_,_,_,_,_=>by simp at h
 | [],_,_::_,_,h,_,_,_,_,_=>by simp at h
 | _::_,[],_,h,_,_,_,_,_,_=>by simp at h
 | _::_,_::_,[],_,h,_,_,_,_,_=>by simp at h
 | a::c,b::t,d::r,ht,hr,j,e,v,h1,h2=>by
  have ih:=dc (take:=take) (c:=c) (t:=t) (r:=r) (by simpa using ht) (by simpa using hr)
  unfold Do at h1
  unfold Fb at h2
  rw [List.zip_cons_cons,Hh] at h2
  by_cases hc:take.contains a.name=true
  ·rw [if_pos hc] at h1
   rw [if_neg (by rw [hc];simp)] at h2
   obtain ⟨i,e1,e2⟩:=ih j e v h1 (by unfold Fb;exact h2)
   exact ⟨i+1,by simpa using e1,by simpa using e2⟩
  rw [if_neg hc] at h1
  rw [if_pos (by simpa using hc)] at h2
  cases j with
  | zero=>exact ⟨0,by simpa using h1,by simpa using h2⟩
  | succ j =>
   obtain ⟨i,e1,e2⟩:=ih j e v (by simpa using h1) (by unfold Fb;simpa using h2)
   exact ⟨i+1,by simpa using e1,by simpa using e2⟩
theorem Comes.app {c0:List Col} {l0 r s:List Val} {t u:List Expr} (h:Comes c0 l0 t r) (h2:Comes c0 l0 u s):Comes c0 l0 (t++u) (r++s):=by
 refine ⟨by simp [h.len,h2.len],fun j e v a b=>?_⟩
 by_cases hj:j<t.length
 ·rw [D8 hj] at a
  rw [D8 (by rw [←h.len];exact hj)] at b
  exact h.each j e v a b
 rw [D9 (by omega)] at a
 rw [D9 (by rw [←h.len];omega),←h.len] at b
 exact h2.each _ e v a b
theorem Comes.own {c:List Col} {row:List Val} (hc:D4 c=true) (hp:F9 c row=true):Comes c row (Ks c) row:=by
 obtain ⟨_,hok,hnd⟩:=kq (by rw [Mq];exact hc)
 have hl:row.length=c.length:=by
  unfold F9 at hp
  simp only [Ao,beq_iff_eq] at hp
  exact hp.1.2
 refine ⟨by simp [Ks,hl],fun j e v h1 h2=>?_⟩
 unfold Ks at h1
 rw [C5] at h1
 cases hy:c[j]? with
 | none=>rw [hy] at h1;cases h1
 | some y =>
  rw [hy] at h1
  injection h1 with h1
  rw [←h1]
  rw [i5 (by rw [Ri,←I1];exact (hok _ (Aw hy)).name) hp,AGx]
  unfold Pf
  rw [Ya hnd hy,if_neg (by omega),Int.toNat_natCast,Cc,h2]
  rfl
theorem AGz {c:List Col} {ms:List Mov} (hf:(Fv c (Ks c) ms).2=0) {k:Nat} {m:Mov} (hk:ms[k]? = some m) (h:Kb c ms k):(Ch (colsAt c ms k) (By c ms k) m.ahead).2=0:=by
 by_cases he:((Ch (colsAt c ms k) (By c ms k) m.ahead).2 != 0)=true
 ·rw [pu hk h he] at hf
  rw [show (Ch (colsAt c ms k) (By c ms k) m.ahead).2=0 from hf] at he
  cases he
 simpa using he
theorem ua {c:List Col} {l:List Mov} {row:List Val} (h:OkMovs l) (hs:((Cg c l).2 != 0)=false) (hR:RowI c row) (hp:F9 c row=true) (hf:(fwM c l row l.length).2=0) (ht:(Fv c (Ks c) l).2=0):∀k,k≤l.length→Kb c l k∧(fwM c l row k).2=0∧Comes c row (By c l k) (fwM c l row k).1
 | 0,_=>by
  obtain ⟨hmay,_,_⟩:=Gc hs
  have hc:D4 c=true:=by unfold Nw at hmay;simp only [Ao] at hmay;exact hmay.1
  exact ⟨AJl,rfl,.own hc hp⟩
 | k+1,hk=>by
  obtain ⟨n,f0,ih⟩:=ua h hs hR hp hf ht k (by omega)
  obtain ⟨m,hm⟩:∃m,l[k]? = some m:=⟨_,Ab (by omega)⟩
  have ho:=AGz ht hm n
  have f1:(fwM c l row (k+1)).2=0:=Hg fun hn=>by
   by_cases e:k+1=l.length
   ·rw [←e] at hf;exact hn hf
   rw [Yy hn l.length (by omega)] at hf
   exact hn hf
  have e:=T7 hm f0
  refine ⟨gy hm n (by rw [ho];rfl),f1,?_⟩
  rw [e] at f1 ⊢
  obtain ⟨g1,g2⟩:=qm f1
  have hl:=(i4 h hs hR k (by omega) f0).len
  rw [g2,By,hm]
  refine Comes.app ⟨?_,fun j e v a b=>?_⟩ (ih.overs hl hp ho g1)
  ·rw [T6 hl,Jk (by rw [ih.len,hl])]
  obtain ⟨i,a1,a2⟩:=dc (by rw [ih.len,hl]) hl j e v a b
  exact ih.each i e v a1 a2
/-- What the law asks, forth. -/
theorem Zj {c:List Col} {l:List Mov} {row:List Val} (h:OkMovs l) (hrr:∀v∈row, -9223372036854775808≤v.n∧v.n≤9223372036854775807) (hf:(Gu c l row).2=0):(((Cg c l).2 != 0)=false∧F9 c row=true∧F9 (colsAt c l l.length) (Gu c l row).1=true∧RowI (colsAt c l l.length) (Gu c l row).1)∧((Eh c l).2=0∨(Eh c l).2=3)∧((Eh c l).2=0→Comes c row (Eh c l).1 (Gu c l row).1):=by
 by_cases h0:(((Cg c l).2 != 0) || !F9 c row)=true
 ·rw [show Gu c l row=([],1) from if_pos h0] at hf
  cases hf
 have h1:((Cg c l).2 != 0)=false∧F9 c row=true:=by simpa using h0
 have hR:=m0 h1.2 hrr
 have e:=ADi h1.1 h1.2
 rw [e] at hf
 obtain ⟨hmay,hst,_⟩:=Gc h1.1
 have hrc:D4 c=true:=by unfold Nw at hmay;simp only [Ao] at hmay;exact hmay.1
 have em:Eh c l=Fv c (Ks c) l:=if_neg (by rw [h1.1];simp)
 refine ⟨⟨h1.1,h1.2,?_,?_⟩,?_,fun ht=>?_⟩
 ·rw [e];exact u6 h h1.1 hR h1.2 _ (Aj _) hf
 ·rw [e];exact i4 h h1.1 hR _ (Aj _) hf
 ·rw [em];exact (Uv l c (Ks c) hrc (Jl hmay) hst (.own hrc)).1
 rw [em] at ht
 obtain ⟨n,_,g⟩:=ua h h1.1 hR h1.2 hf ht l.length (Aj _)
 rw [em,pv n,e]
 exact g
/-! The laws of RewriteForth, RewriteBack, RewriteNone. -/
theorem AH0 {q:Qry} {c:List Col} (h:De q c=0):Lk q=true∧Io c=true∧(Lj q=true→(Ba c q.whr).2=0):=by
 unfold De at h
 split at h
 ·exact fx
 rename_i h1
 have h1':Lk q=true∧Io c=true:=by simpa using h1
 refine ⟨h1'.1,h1'.2,fun ha=>?_⟩
 split at h
 ·exact fx
 split at h
 ·rename_i h3
  rw [ha] at h3;cases h3
 split at h
 ·rename_i h4
  rw [show (Ft q.whr c).2=0 from h] at h4;cases h4
 rename_i h4
 have h5:(Ft q.whr c).2=0:=by simpa using h4
 unfold Ft at h5
 split at h5
 ·exact absurd h5 (by decide)
 exact h5
theorem qt {q:Qry} (h:Lk q=true) (ha:Lj q=true):Au q.whr=true:=by
 unfold Lk at h
 split at h
 ·cases h
 rw [ha] at h
 simp only [Ao,Hw,F1] at h
 rw [Ga]
 exact h.2
theorem mm {x:Expr} (h:Au x=true):(x.op==0)=false:=by
 rw [Ga] at h
 have h1:=Ns h
 rw [Ip,Ao] at h1
 cases Lg h1.1<;>rfl
theorem AH1 {q:Qry} (ha:Lj q=false):q.whr=Av:=by
 unfold Lj at ha
 exact (Wf _ _).1 (by simpa using ha)
theorem AH2 {q:Qry} (h:Lk q=true):(q.whr.op==0) = !Lj q:=by
 cases ha:Lj q with
 | false=>rw [AH1 ha];rfl
 | true=>exact mm (qt h ha)
/-- What a turned query is. -/
structure Plan (q:Qry) (d:List Col) (t:List Expr) (p:Pln):Prop where
 lim:p.lim=q.lim
 trees:p.trees=Iy q d t
 whr:(Lj q=false∧p.whr=Av)∨(Lj q=true∧Au p.whr=true∧p.whr=(Cr q.whr d t).1∧(Cr q.whr d t).2=0)
theorem Zk {x:Expr} {c:List Col} {l:List Expr} (h:(Cr x c l).2=0):Au x=true∧Au (Cr x c l).1=true:=by
 unfold Cr at h ⊢
 split at h
 ·exact fx
 rename_i h1
 rw [if_neg h1]
 refine ⟨?_,?_⟩
 ·simp only [Cx,K6,not_or,dg] at h1
  exact h1.1.1.1
 cases hp:putF c l x with
 | none=>rw [hp] at h;exact absurd h (show ¬(9:Int)=0 by decide)
 | some y =>
  rw [hp] at h
  simp only at h ⊢
  split at h
  ·rename_i h2
   rw [if_pos h2]
   exact h2
  exact fx
theorem qu {q:Qry} {d:List Col} {t:List Expr} (hc:De q d=0) (h0:(Lm q d t).2=0):Plan q d t (Lm q d t).1:=by
 have ho:=AH2 (AH0 hc).1
 unfold Lm at h0 ⊢
 split
 ·rename_i h1
  rw [h1] at ho
  exact ⟨rfl,rfl,.inl ⟨by simpa using ho,rfl⟩⟩
 rename_i h1
 rw [if_neg h1] at h0
 rw [show (q.whr.op==0)=false by simpa using h1] at ho
 split
 ·rename_i h2
  rw [if_pos h2] at h0
  rw [show (Cr q.whr d t).2=0 from h0] at h2
  cases h2
 rename_i h2
 have h3:(Cr q.whr d t).2=0:=by simpa using h2
 exact ⟨rfl,rfl,.inr ⟨by simpa using ho,(Zk h3).2,rfl,h3⟩⟩
theorem ADm {c0 c:List Col} {l0 r:List Val} {t:List Expr} (h:Comes c0 l0 t r) (hl:r.length=c.length) (h0:F9 c0 l0=true) (hr:F9 c r=true) {x:Expr} (ho:(Cr x c t).2=0):Br (Cr x c t).1 c0 l0=Br x c r:=by
 have hx:=Zk ho
 rw [i5 hx.2 h0,i5 hx.1 hr]
 unfold Cr at ho ⊢
 split at ho
 ·exact absurd ho (by decide)
 rename_i h1
 rw [if_neg h1]
 cases hp:putF c t x with
 | none=>rw [hp] at ho;exact absurd ho (show ¬(9:Int)=0 by decide)
 | some y =>
  rw [hp] at ho
  simp only at ho ⊢
  split at ho
  ·rename_i h2
   rw [if_pos h2]
   exact Uw (h.name hl) x y hp
  exact absurd ho (by decide)
theorem AH3 {q:Qry} {d c0:List Col} {t:List Expr} {p:Pln} {l0 r:List Val} (hP:Plan q d t p) (hC:Comes c0 l0 t r) (hl:r.length=d.length) (h0:F9 c0 l0=true) (hr:F9 d r=true):Kh p c0 l0=Ca q d r:=by
 have e1:Kh p c0 l0=Vp p c0 l0:=if_pos h0
 have e2:Ca q d r=if !Lj q then (true,0) else (Yk (Br q.whr d r),Sw (Br q.whr d r)):=if_neg (by rw [hr];simp)
 rw [e1,e2]
 unfold Vp
 rcases hP.whr with ⟨ha,hw⟩|⟨ha,hx,hw,ho⟩
 ·rw [hw,ha];rfl
 rw [if_neg (by rw [mm hx];simp),if_neg (by rw [ha];simp),hw,ADm hC hl h0 hr ho]
theorem Ux {c0:List Col} {l0:List Val}:∀{ts:List Expr} {vs:List Val},ts.length=vs.length→(∀(j:Nat) (e:Expr) (v:Val),ts[j]? = some e→vs[j]? = some v→Br e c0 l0=(v,0))→Be c0 l0 ts=(vs,0)
 | [],[],_,_=>rfl
 | [],_::_,h,_=>by simp at h
 | _::_,[],h,_=>by simp at h
 | e::ts,v::vs,hl,h=>by
  rw [Be,h 0 e v rfl rfl,Ux (ts:=ts) (vs:=vs) (by simpa using hl) (fun j e v h1 h2=>h (j+1) e v (by simpa using h1) (by simpa using h2))]
  rfl
theorem Comes.tree {c0 c:List Col} {l0 r:List Val} {t:List Expr} (h:Comes c0 l0 t r) (hl:r.length=c.length) {s:Str} (hs:¬Ay s c<0):Kg c t s∈t∧Br (Kg c t s) c0 l0=(r.getD (Ay s c).toNat noV,0):=by
 obtain ⟨j,hj,hjl⟩:=Gi hs
 have ht:=h.len
 have h1:t[j]? = some (t.getD j Av):=by rw [Cc,Ab (by omega)];rfl
 have h2:r[j]? = some (r.getD j noV):=by rw [Cc,Ab (by omega)];rfl
 unfold Kg
 rw [hj,Int.toNat_natCast]
 exact ⟨Aw h1,h.each j _ _ h1 h2⟩
theorem AH4 {q:Qry} {d c0:List Col} {t:List Expr} {p:Pln} {l0 r:List Val} (k:Int) (hP:Plan q d t p) (hC:Comes c0 l0 t r) (hl:r.length=d.length) (hn:∀s∈q.cols,¬Ay s d<0):M2 p c0 ⟨k,l0⟩=(K4 q d ⟨k,r⟩,0):=by
 have h1:Be c0 l0 p.trees=((K4 q d ⟨k,r⟩).l,0):=by
  rw [hP.trees]
  unfold Iy K4
  cases q.all with
  | true=>exact Ux hC.len hC.each
  | false =>
   refine Ux (by simp) fun j e v a b=>?_
   simp only [Bd,↓reduceIte,C5,E7] at a b
   obtain ⟨s,hs,rfl⟩:=a
   obtain ⟨s',hs',rfl⟩:=b
   rw [hs] at hs'
   injection hs' with hs'
   subst hs'
   exact (hC.tree hl (hn s (Aw hs))).2
 unfold M2
 rw [h1]
 rfl
theorem AO3 {q:Qry} {d c0:List Col} {t:List Expr} {p:Pln} {l0 r:List Val} (k:Int) (hP:Plan q d t p) (hC:Comes c0 l0 t r) (hl:r.length=d.length) (h0:F9 c0 l0=true) (hr:F9 d r=true) (hn:∀s∈q.cols,¬Ay s d<0):stP p c0 ⟨k,l0⟩=Ca q d r∧Ml p c0 ⟨k,l0⟩=K4 q d ⟨k,r⟩:=by
 have h1:=AH4 k hP hC hl hn
 have h2:=AH3 hP hC hl h0 hr
 refine ⟨?_,by unfold Ml;rw [h1]⟩
 cases hg:T8 p c0 ⟨k,l0⟩ with
 | false=>rw [AHq hg,←h2]
 | true =>
  rw [AHp hg,h1,←h2]
  unfold T8 at hg
  simp only [Ao,beq_iff_eq] at hg
  exact Pv hg.2.symm hg.1.symm
theorem mn {h h':Row→Bool×Int} {g g':Row→Row} {n:Int} {f:Row→Row}:∀(rows o:List Row),(∀x∈rows,h (f x)=h' x∧((h' x).1=true→g (f x)=g' x))→Kw h g n (rows.map f) o=Kw h' g' n rows o
 | [],_,_=>rfl
 | x::r,o,H=>by
  obtain ⟨h1,h2⟩:=H x Gw
  have ih:=fun o=>mn (h:=h) (h':=h') (g:=g) (g':=g') (n:=n) (f:=f) r o (fun y hy=>H y (Jp _ hy))
  rw [Bk,Kw,Kw,h1]
  split
  ·rfl
  split
  ·rename_i h3
   rw [h2 h3,ih]
  rw [ih]
theorem ADn {p:Pln} {q:Qry} {c0 d:List Col} {rows rows':List Row} (hw:Pp p c0=false) (hk:De q d=0) (hl:p.lim=q.lim) (hs:Kw (stP p c0) (Ml p c0) q.lim rows []=Kw (fun x=>Ca q d x.l) (K4 q d) q.lim rows' []):ai p c0 rows=Up q d rows':=by
 unfold ai Up
 rw [if_neg (by rw [hw];simp),hk,hl]
 cases h:q.lim==0 with
 | true=>rfl
 | false =>
  rw [if_neg (by simp),if_neg (by simp),hs,Za]
theorem ADo {q:Qry} {d c0:List Col} {t:List Expr} {p:Pln} (hP:Plan q d t p) (hc:Io c0=true) (ht:∀e∈t,Au e=true) (hl:t.length=d.length) (hn:∀s∈q.cols,¬Ay s d<0):Pp p c0=false:=by
 have h1:p.trees.any E0=false:=by
  rw [If]
  intro e he
  unfold E0
  rw [hP.trees] at he
  unfold Iy at he
  split at he
  ·rw [ht e he];simp
  obtain ⟨s,hs,rfl⟩:=C3.1 he
  obtain ⟨j,hj,hjl⟩:=Gi (hn s hs)
  have h1:t[j]? = some (t.getD j Av):=by rw [Cc,Ab (by omega)];rfl
  unfold Kg
  rw [hj,Int.toNat_natCast,ht _ (Aw h1)]
  simp
 unfold Pp
 rw [hc,h1]
 rcases hP.whr with ⟨_,hw⟩|⟨_,hx,_,_⟩
 ·rw [hw];rfl
 unfold E0;rw [hx];simp
theorem qv {c:List Col} (h:D4 c=true):Io c=true:=by
 rw [Lz]
 unfold D4 at h
 rw [Ao] at h
 exact h.2
def Zl (c:List Col) (l:List Mov) (x:Row):Row:=⟨x.key,(Gu c l x.l).1⟩
theorem mo {q:Qry} {c:List Col} {l:List Mov} (h:(Eo q c l).2=0):((Dw c l).2 != 0)=false∧De q (Dw c l).1=0∧(Eh c l).2=0∧Eo q c l=Lm q (Dw c l).1 (Eh c l).1:=by
 cases h1:((Dw c l).2 != 0) with
 | true=>rw [AHr h1] at h;exact absurd h (by decide)
 | false =>
  cases h2:(De q (Dw c l).1 != 0) with
  | true=>rw [AHs h1 h2] at h;rw [show De q (Dw c l).1=0 from h] at h2;cases h2
  | false =>
   cases h3:((Eh c l).2 != 0) with
   | true=>rw [AHt h1 h2 h3] at h;rw [show (Eh c l).2=0 from h] at h3;cases h3
   | false=>exact ⟨rfl,by simpa using h2,by simpa using h3,AHu h1 h2 h3⟩
theorem ym {c:List Col} {l:List Mov} (hs:((Cg c l).2 != 0)=false):D4 c=true∧(∀m∈l,I8 m=true)∧(Ct c l).2=0:=by
 obtain ⟨hmay,hst,_⟩:=Gc hs
 unfold Nw at hmay
 refine ⟨?_,Jl (show Nw c l=true from hmay),hst⟩
 rw [Ao] at hmay
 exact hmay.1
theorem AK8 {q:Qry} {c:List Col} {l:List Mov} {rows:List Row} (h:OkMovs l) (hr:∀x∈rows,(∀v∈x.l, -9223372036854775808≤v.n∧v.n≤9223372036854775807)∧(Gu c l x.l).2=0) (h0:(Eo q c l).2=0) (hs:((Cg c l).2 != 0)=false):
  ai (Eo q c l).1 c rows=Up q (Dw c l).1 (rows.map (Zl c l)):=by
 obtain ⟨hL,hK,hF,e⟩:=mo h0
 rw [e] at h0 ⊢
 have hP:=qu hK h0
 have hn:=Rv hK
 obtain ⟨hrc,hv,hst⟩:=ym hs
 have el:=Uq hs
 have hfit:=(Uv l c (Ks c) hrc hv hst (FitT.own hrc)).2
 rw [←cm hs] at hfit
 have hT:=hfit hF
 rw [el] at hP hK hn ⊢
 refine ADn (ADo hP (qv hrc) hT.rights hT.len hn) hK hP.lim ?_
 refine (mn rows [] fun x hx=>?_).symm
 obtain ⟨⟨_,hp,hpX,hRX⟩,_,hC⟩:=Zj h (hr x hx).1 (hr x hx).2
 have:=AO3 x.key hP (hC hF) hRX.len hp hpX hn
 exact ⟨this.1.symm,fun _=>this.2.symm⟩
theorem c52 (e:Expr) (hok:okE 61 e) (Hp:List AObj):AFun Tryz.prog 52 [A8 e] Hp (B0 (E0 e)):=by
 refine Ae [.tmp 2] [0] Tryz.func52 Tryz.ntmps52 (fun d=>?_)
 refine Z97 ?_;refine Z2 ?_;exact AI5

theorem AO4 (l:List Expr) (hl:l.length≤1048576) (hn:∀e∈l,okE 61 e) (Hp:List AObj):AFun Tryz.prog 98 [Cm l,.fn (.func 52) [] []] Hp (A3 (Pj E0 l)):=by
 refine Ae [.tmp 4] [0,1] Tryz.func98 Tryz.ntmps98 (fun d=>?_)
 refine fk ?_
 refine Bg (α:=Nat) (fun x=>⟨19,A6 0 (Cm l) (A6 1 (.fn (.func 52) [] []) (A6 7 (A3 l.length) (A6 8 (A3 (x:Nat)) (fun _=>.any)))),Hp,[],[],none⟩) (fun x=>x≤l.length∧∀(j:Nat) y,j<x→l[j]? = some y→E0 y=false) (fun x=>l.length-x) (0) ⟨Aq _,fun j y h=>by omega⟩ (Bl (by simp)) rfl (fun x hx=>?_)
 refine f9 ?_
 refine Co (fun ht9=>?_) (fun ht9=>?_)
 ·have hlt:x<l.length:=by simpa using ht9
  refine fm ?_
  refine A5 (h:=Ah (x) (A8 l[x]) (fun _=>B7 hlt)) (hr:=?_)
  refine A5 ?_;refine Na Tryz.call52 (c52 l[x] (hn _ (Bf hlt)) _) ?_;refine fw ?_
  refine A4 (fun ht16=>?_) (fun ht16=>?_)
  ·exact zy
  exact AA2
 have hxe:l.length≤x:=by simpa using ht9
 exact AA3

theorem AO5 (l:List Expr) (hl:l.length≤1048576) (hn:∀e∈l,okE 61 e) (Hp:List AObj):AFun Tryz.prog 51 [Cm l,.fn (.func 52) [] []] Hp (B0 (l.any E0)):=by
 refine Ae [.tmp 4] [0,1] Tryz.func51 Tryz.ntmps51 (fun d=>?_)
 refine fu ?_;refine A9 Tryz.call98 (AO4 l hl hn _) ?_;exact AA6

theorem AH5:Le (.agg [A3 0,.nil]) (Eb ⟨0,[]⟩):=.agg _ _ rfl (by simp;exact ⟨rfl,rfl⟩) fun i y y' h h'=>by
 rcases i with _|_|i<;>simp at h h'<;>subst h<;>subst h'
 ·exact .inl rfl
 exact .inr ⟨rfl,_,rfl⟩
def Qy (p:Pln) (c:List Col) (x:Row) (i:Nat):List Val:=(p.trees.take i).map fun e=>(Br e c x.l).1
theorem qw {p:Pln} {c:List Col} {x:Row} {i:Nat} (h:i<p.trees.length):Qy p c x (i+1)=Qy p c x i++[(Br p.trees[i] c x.l).1]:=by
 unfold Qy
 rw [Ss h]
theorem ADp {p:Pln} {c:List Col} {x:Row} {i:Nat} (hi:p.trees.length≤i) (h:∀(j:Nat) (y:Expr),j<i→p.trees[j]? = some y→((Br y c x.l).2 != 0)=false):M2 p c x=(⟨x.key,Qy p c x i⟩,0):=by
 have:=Rr (l:=p.trees) (c:=c) (row:=x.l) (fun j y hy=>h j y (by have:=(Ad.1 hy).1;omega) hy)
 unfold M2 Qy
 rw [this,Ej hi]
 rfl
theorem ADq {p:Pln} {c:List Col} {x:Row} {i:Nat} (hi:i<p.trees.length) (h:∀(j:Nat) (y:Expr),j<i→p.trees[j]? = some y→((Br y c x.l).2 != 0)=false) (he:((Br p.trees[i] c x.l).2 != 0)=true):M2 p c x=(⟨0,[]⟩,(Br p.trees[i] c x.l).2):=by
 have e:=Rt h (Ab hi) he
 unfold M2
 rw [e,if_pos he]
theorem ADr {n:Nat} {p:Pln}:∀y∈xt p,Low n y:=by
 intro y hy
 simp only [B3,Et,or_false] at hy
 rcases hy with rfl|rfl|rfl|rfl|rfl|rfl|rfl|rfl
 ·exact D5
 ·simp
 ·simp
 ·simp
 ·simp
 ·simp
 ·exact D5
 simp
theorem ARm (p:Pln) (hp:PW p) (c:List Col) (hc:OkCols c) (l:List Val) (hll:l.length≤1048576) (hlr:∀v∈l, -9223372036854775808≤v.n∧v.n≤9223372036854775807) (Hp:List AObj):AFun Tryz.prog 100 [m9 p,Ar c,F4 l] Hp (.tup [B0 (Vp p c l).1,A3 (Vp p c l).2]):=by
 refine Ae [.tmp 6,.tmp 7] [0,1,2] Tryz.func100 Tryz.ntmps100 (fun d=>?_)
 refine Z15 ?_;refine A2 [1,2,3] ?_;refine Z88 ?_;refine A2 [1,2,3,11] ?_
 refine A4 (fun ht11=>?_) (fun ht11=>?_)
 ·have hm:Vp p c l=(true,0):=if_pos ht11
  refine Z1 ?_;refine Z17 ?_;exact Z32
 have hm:Vp p c l=(Yk (Br p.whr c l),Sw (Br p.whr c l)):=if_neg (by rw [ht11];simp)
 refine jg ?_;refine A9 Tryz.call142 (ANp 61 p.whr hp.ok (by decide) hp.rng c hc l hll hlr _) ?_;refine Z58 ?_;exact ALb

theorem ARn (p:Pln) (hp:PW p) (c:List Col) (hc:OkCols c) (x:Row) (hx:x.l.length≤1048576) (hxr:∀v∈x.l, -9223372036854775808≤v.n∧v.n≤9223372036854775807) (Hp:List AObj):AFun Tryz.prog 101 [m9 p,Ar c,Eb x] Hp (.tup [Eb (M2 p c x).1,A3 (M2 p c x).2]):=by
 refine Ae [.cell 6 58,.tmp 7] [0,1,2] Tryz.func101 Tryz.ntmps101 (fun d=>?_)
 refine Z1 ?_;refine Z46 ?_;refine A2 [1,3,5,6] ?_;refine AI8 ?_;refine Z14 ?_;refine A2 [1,3,5,6,8] ?_;refine Z62 ?_;refine H5 1 1 3 ?_;refine Z58 ?_;refine A2 [1,5,6,8,17,18,19] ?_
 refine Bg (α:=Nat) (fun i=>⟨43,A6 1 (Ar c) (A6 5 (.ro (qd x)) (A6 6 (.ptr (oid Hp.length 0) 0) (A6 8 (.ptr (oid Hp.length 1) 0) (A6 17 (Cm p.trees) (A6 18 (A3 (p.trees.length:Nat)) (A6 19 (A3 (i:Nat)) (fun _=>.any))))))),Hp,[.cells 58 [A3 0,.nil],.cells 58 [A3 x.key,.slice true 3 ((Qy p c x i).map Bn)]],[],none⟩) (fun i=>i≤p.trees.length∧∀(j:Nat) (y:Expr),j<i→p.trees[j]? = some y→((Br y c x.l).2 != 0)=false) (fun i=>p.trees.length-i) (0) ⟨Aq _,fun j y h=>by omega⟩ (Bl (by simp [Qy])) rfl (fun i hi=>?_)
 refine Z2 ?_;refine A2 [1,5,6,8,17,18,19,20] ?_
 refine Co (fun ht20=>?_) (fun ht20=>?_)
 ·have hlt:i<p.trees.length:=by simpa using ht20
  have hkl:=hp.len
  refine Z77 ?_
  refine A5 (h:=Ah (i) (A8 p.trees[i]) (fun _=>B7 hlt)) (hr:=?_)
  refine Qe ?_;refine A2 [1,5,6,8,10,17,18,19] ?_;refine Z23 ?_;refine A9 Tryz.call138 (AJw 61 p.trees[i] (hp.tok _ (Bf hlt)) (by decide) (hp.trng _ (Bf hlt)) c hc x.l hx hxr _) ?_;refine Ra ?_;refine A2 [1,5,6,8,11,12,17,18,19] ?_;refine Z7 ?_;refine A2 [1,5,6,8,11,12,17,18,19,32] ?_
  refine A4 (fun ht32=>?_) (fun ht32=>?_)
  ·have hm:=ADq hlt hi.2 ht32
   refine Ez ?_;refine R.buildLe (Eb ⟨0,[]⟩) AH5 (places:=#[(0,1),(1,1)]) jU (fun w=>by simp) Tryz.zeroValue58 ?_;refine vk ?_;refine Ck ?_;refine Z51 ?_;exact Aa (B5 (B4 jA jS) A7) ⟨by rw [hm]<;>rfl,rfl⟩
  refine Z3 ?_;refine Z52 ?_;refine X2 jA ?_;refine Z71 ?_
  refine Ek jU Tryz.type24 ?_ ?_ ?_
  ·unfold Qy;simp only [An,C0,B2,Bz,Tryz.t24];omega
  ·unfold Qy;simp only [An,C0,B2,Bz,Tryz.t24];omega
  refine AEi ?_;refine A2 [1,5,6,8,17,18,19] ?_;refine R9 ?_;refine A2 [1,5,6,8,17,18,19] ?_;refine Bm (i+1) ⟨hlt,D3 hlt hi.2 ht32⟩ (by omega) ?_
  simp only [qw hlt,Bj,Bk,Dr]
  exact D0 (own:=[.cells 58 [A3 0,.nil],.cells 58 [A3 x.key,.slice true 3 ((Qy p c x i).map Bn++[Bn (Br p.trees[i] c x.l).1])]]) (fun _=>.refl _) (by repeat (first|exact Bc|refine Bb (by first|exact D5|exact ADr|(simp [or_imp,forall_and,oid];done)|(simp [or_imp,forall_and,oid]<;>omega)) ?_)) (by simp [ObjLow,or_imp,forall_and]) (by simp)
 have hxe:p.trees.length≤i:=by simpa using ht20
 have hm:=ADp hxe hi.2
 refine nq ?_;refine Z79 ?_;exact Aa (B5 (B4 jA jS) A7) ⟨by rw [hm]<;>rfl,rfl⟩ (hlow:=by simp [or_imp,forall_and])

theorem c53 (p:Pln) (c:List Col) (rows:List Row) (Hp:List AObj):AFun Tryz.prog 53 [m9 p,Ar c,Hc rows] Hp (.fn (.func 99) [] [.ro [Hc rows],.ro [Ar c],.ro (xt p)]):=by
 refine Ae [.tmp 6] [0,1,2] Tryz.func53 Tryz.ntmps53 (fun d=>?_)
 refine Z23 ?_;refine A2 [3,4,5] ?_;refine vi ?_;refine Z76 ?_;exact Aa (Ai A7) ⟨rfl,rfl⟩ (hlow:=by simp [or_imp,forall_and]<;>(repeat' apply And.intro)<;>(intros;exact Am _ _))

theorem c99 (l:Nat) (p:Pln) (hp:PW p) (c:List Col) (hc:OkCols c) (rows:List Row) (hw:RW rows) (U:Nat→List AObj) (N:Nat→Prop) (Z:List AObj→Prop) (hlen:∀k,(U k).length=(U 0).length) (hll:l<(U 0).length)
  (hlw:∀k,∀x∈U k,ObjLow (U 0).length x) (h0:N 0) (hn:∀k y,rows[k]? = some y→N k→(stP p c y).2=0→(stP p c y).1=false→N (k+1)∧U (k+1)=U k)
  (he:∀k y X,rows[k]? = some y→N k→(stP p c y).2≠0→AYield Tryz.prog l [.agg [A3 0,.nil],A3 (stP p c y).2] (U k++X) (fun b H'=>∃V,H'=V++X∧V.length=(U 0).length∧(∀x∈V,ObjLow (U 0).length x)∧Z V))
  (hy:∀k y X,rows[k]? = some y→N k→(stP p c y).2=0→(stP p c y).1=true→AYield Tryz.prog l [Eb (Ml p c y),A3 0] (U k++X) (fun b H'=>(b=true∧N (k+1)∧H'=U (k+1)++X)∨(b=false∧∃V,H'=V++X∧V.length=(U 0).length∧(∀x∈V,ObjLow (U 0).length x)∧Z V)))
  (hR:N rows.length→Z (U rows.length)):ACall Tryz.prog 99 [.yield l,.ro [Hc rows],.ro [Ar c],.ro (xt p)] (U 0) (fun _ H'=>Z H'):=by
 refine Ae [] [0,1,2,3] Tryz.func99 Tryz.ntmps99 (fun d=>?_)
 refine Z15 ?_;refine A2 [0,2,3,10,11,12] ?_
 refine Bg (α:=Nat) (fun x=>⟨54,A6 0 (.yield l) (A6 2 (.ro [Ar c]) (A6 3 (.ro (xt p)) (A6 10 (Hc rows) (A6 11 (A3 rows.length) (A6 12 (A3 (x:Nat)) (fun _=>.any)))))),U x,[],[],none⟩) (fun x=>x≤rows.length∧N x) (fun x=>rows.length-x) (0) ⟨Aq _,h0⟩ (Bl (by simp)) rfl (fun x hx=>?_)
 refine Z2 ?_;refine A2 [0,2,3,10,11,12,13] ?_
 refine Co (fun ht13=>?_) (fun ht13=>?_)
 ·have hlt:x<rows.length:=by simpa using ht13
  have hwl:=hw.len
  refine Z77 ?_
  refine A5 (h:=Ah (x) (Eb rows[x]) (fun _=>B7 hlt)) (hr:=?_)
  refine Qe ?_;refine A2 [0,2,3,6,10,11,12] ?_;refine Z1 ?_;refine A2 [0,2,3,6,7,8,10,11,12] ?_
  refine W.join ⟨54,A6 0 (.yield l) (A6 2 (.ro [Ar c]) (A6 3 (.ro (xt p)) (A6 6 (.ptr (oid (U x).length 0) 0) (A6 7 (B0 (Kh p c rows[x].l).1) (A6 8 (A3 (Kh p c rows[x].l).2) (A6 10 (Hc rows) (A6 11 (A3 rows.length) (A6 12 (A3 (x:Nat)) (fun _=>.any))))))))),U x,[AObj.cells 58 (qd rows[x])],[],none⟩ ?_ ?_
  ·refine Z15 ?_;refine A9 Tryz.call47 (c47 c hc rows[x].l (hw.at hlt).1 _) ?_;refine A2 [0,2,3,6,7,8,10,11,12,19] ?_
   refine A4 (fun ht19=>?_) (fun ht19=>?_)
   ·have hm:Kh p c rows[x].l=Vp p c rows[x].l:=if_pos ht19
    refine Z22 ?_;refine Z0 ?_;refine A9 Tryz.call100 (ARm p hp c hc rows[x].l (hw.at hlt).1 (hw.at hlt).2 _) ?_;refine Z75 ?_;refine A2 [0,2,3,6,7,8,10,11,12] ?_;refine K.thJ ?_
    rw [hm]
    exact Bl rfl
   have hm:Kh p c rows[x].l=(false,1):=if_neg (by rw [ht19];simp)
   refine G9 [0,2,3,6,7,8,10,11,12] ?_;refine N7 ?_;refine K.thJ ?_
   rw [hm]
   exact Bl rfl
  refine Z24 ?_;refine A2 [0,2,3,6,7,8,9,10,11,12] ?_;refine Z30 ?_;refine Z53 ?_;refine A2 [0,2,3,6,7,8,9,10,11,12,32] ?_
  refine A4 (fun ht32=>?_) (fun ht32=>?_)
  ·have hg:T8 p c rows[x]=true:=ht32
   have hs:=AHp hg
   have hg1:(Kh p c rows[x].l).1=true:=by unfold T8 at hg;simp only [Ao] at hg;exact hg.2
   refine Z47 ?_;refine A9 Tryz.call101 (ARn p hp c hc rows[x] (hw.at hlt).1 (hw.at hlt).2 _) ?_;refine Z12 ?_;refine Z9 ?_;refine A2 [0,2,3,7,8,9,10,11,12] ?_;refine H4 ?_;refine Z7 ?_;refine A2 [0,2,3,7,8,9,10,11,12,41] ?_
   refine A4 (fun ht41=>?_) (fun ht41=>?_)
   ·refine Z93 ?_;refine A5 ?_
    refine R.yield (l:=l) (args:=[.agg [A3 0,.nil],A3 (M2 p c rows[x]).2]) (by have h9:=fun X=>he x rows[x] X (Ab hlt) hx.2 (by rw [hs];simpa using ht41);rw [hs] at h9;exact h9 _) ?_
    rintro b V O hV ⟨W,h2,h3,h4,h5⟩
    obtain ⟨rfl,rfl⟩:=K7 h2 (by rw [hV,hlen x,h3])
    refine ⟨fun _=>by rw [h3];exact h4,fun o ho=>(by cases ho),?_⟩
    refine j7 ?_;exact AIc
   refine Ni ?_;refine Z6 ?_
   refine G.yield (l:=l) (C:=((Kh p c rows[x].l).1==true)) (args:=[Eb (M2 p c rows[x]).1,A3 0]) (fun hC=>hy x rows[x] _ (Ab hlt) hx.2 (by rw [hs];simpa using ht41) (by rw [hs])) ?_
   intro b V O hV hb hb0
   have hVO:O=[AObj.cells 58 (qd rows[x]),AObj.cells 58 (qd (M2 p c rows[x]).1)]∧((b=true∧N (x+1)∧V=U (x+1))∨(b=false∧V.length=(U 0).length∧(∀y∈V,ObjLow (U 0).length y)∧Z V)):=by
    rcases hb (by rw [hg1];rfl) with ⟨h1,h3,h2⟩|⟨h1,W,h2,h3,h4,h5⟩
    ·have h6:=K7 h2 (by rw [hV,hlen x,hlen (x+1)])
     exact ⟨h6.2,.inl ⟨h1,h3,h6.1⟩⟩
    obtain ⟨rfl,rfl⟩:=K7 h2 (by rw [hV,hlen x,h3])
    exact ⟨rfl,.inr ⟨h1,h3,h4,h5⟩⟩
   obtain ⟨rfl,hVO⟩:=hVO
   have hVl:V.length=(U 0).length:=by rw [hV,hlen x]
   have hVw:∀y∈V,ObjLow (U 0).length y:=by
    rcases hVO with ⟨_,_,rfl⟩|⟨_,_,h,_⟩
    ·exact hlw _
    exact h
   refine ⟨fun _=>by rw [hVl];exact hVw,fun o ho=>(by cases ho),?_⟩
   refine Z53 ?_;refine A2 [0,2,3,10,11,12,52] ?_
   refine A4 (fun ht52=>?_) (fun ht52=>?_)
   ·have hRV:Z V:=by
     rcases hVO with ⟨h2,_⟩|⟨_,_,_,h5⟩
     ·rw [hg1,h2] at ht52;simp at ht52
     exact h5
    refine G5 ?_;refine Z26 ?_;exact Aa .nores (hp:=hRV)
   have hVn:N (x+1)∧V=U (x+1):=by
    rcases hVO with ⟨_,h2,h3⟩|⟨h2,_⟩
    ·exact ⟨h2,h3⟩
    rw [hg1,h2] at ht52;simp at ht52
   obtain ⟨hN,rfl⟩:=hVn
   refine Z68 ?_;refine A2 [0,2,3,10,11,12] ?_;refine AEq ?_
   exact D0 (own:=[]) (fun _=>.refl _) (by repeat (first|exact Bc|refine Bb (by first|(simp [or_imp,forall_and];done)|(simp [or_imp,forall_and]<;>(repeat' apply And.intro)<;>(intros;exact Am _ _))|(have:=hlen (x+1);simp;omega)) ?_)) (by simp) (by simp)
  have hg:T8 p c rows[x]=false:=ht32
  have hs:=AHq hg
  refine ji ?_;refine A2 [0,2,3,7,8,9,10,11,12,41] ?_
  refine A4 (fun ht41=>?_) (fun ht41=>?_)
  ·refine Z93 ?_;refine A5 ?_
   refine R.yield (l:=l) (args:=[.agg [A3 0,.nil],A3 (Kh p c rows[x].l).2]) (by have h9:=fun X=>he x rows[x] X (Ab hlt) hx.2 (by rw [hs];simpa using ht41);rw [hs] at h9;exact h9 _) ?_
   rintro b V O hV ⟨W,h2,h3,h4,h5⟩
   obtain ⟨rfl,rfl⟩:=K7 h2 (by rw [hV,hlen x,h3])
   refine ⟨fun _=>by rw [h3];exact h4,fun o ho=>(by cases ho),?_⟩
   refine j7 ?_;exact AIc
  have hg1:(Kh p c rows[x].l).1=false:=by unfold T8 at hg;rw [show ((Kh p c rows[x].l).2==0)=true by simpa using ht41] at hg;simpa using hg
  refine Ni ?_;refine Z6 ?_
  refine G.yield (l:=l) (C:=((Kh p c rows[x].l).1==true)) (args:=[.agg [A3 0,.nil],A3 0]) (post:=fun _ _=>False) (fun hC=>by rw [hg1] at hC;cases hC) ?_
  intro b V O hV hb hb0
  obtain ⟨h1,h2⟩:=hb0 (by rw [hg1];rfl)
  subst h2
  obtain ⟨hN,hU⟩:=hn x _ (Ab hlt) hx.2 (by rw [hs];simpa using ht41) (by rw [hs];exact hg1)
  have hV2:V=U (x+1):=h1.trans hU.symm
  subst hV2
  refine ⟨fun _=>by rw [hlen (x+1)];exact hlw _,fun o ho=>(by cases ho),?_⟩
  refine Z53 ?_;refine A2 [0,2,3,10,11,12,52] ?_
  refine A4 (fun ht52=>?_) (fun ht52=>?_)
  ·rw [hg1] at ht52
   simp at ht52
  refine Z68 ?_;refine A2 [0,2,3,10,11,12] ?_;refine AEq ?_
  exact D0 (own:=[]) (fun _=>.refl _) (by repeat (first|exact Bc|refine Bb (by first|(simp [or_imp,forall_and];done)|(simp [or_imp,forall_and]<;>(repeat' apply And.intro)<;>(intros;exact Am _ _))|(have:=hlen (x+1);simp;omega)) ?_)) (by simp) (by simp)
 have hxe:x=rows.length:=by have:=hx.1;simp at ht13;omega
 exact AI3

theorem AK9 {p:Pln} {c:List Col} {rows:List Row} (h:Pp p c=true):ai p c rows=([],1):=if_pos h
theorem AKa {p:Pln} {c:List Col} {rows:List Row} (h:Pp p c=false) (h1:(p.lim==0)=true):ai p c rows=([],0):=by
 unfold ai;rw [if_neg (by rw [h];simp),if_pos h1]
theorem AKb {p:Pln} {c:List Col} {rows:List Row} (h:Pp p c=false) (h1:(p.lim==0)=false):ai p c rows=Kw (stP p c) (Ml p c) p.lim rows []:=by
 unfold ai;rw [if_neg (by rw [h];simp),if_neg (by rw [h1];simp)]
theorem c22 (p:Pln) (hp:PW p) (c:List Col) (hc:OkCols c) (rows:List Row) (hw:RW rows) (Hp:List AObj):AFun Tryz.prog 22 [m9 p,Ar c,Hc rows] Hp (.tup [Hc (ai p c rows).1,A3 (ai p c rows).2]):=by
 refine Ae [.cell 6 52,.cell 7 38] [0,1,2] Tryz.func22 Tryz.ntmps22 (fun d=>?_)
 refine AA9 ?_;refine P1 ?_;refine A2 [1,2,3,6,7] ?_;refine Z31 ?_;refine A9 Tryz.call50 (c50 c hc _) ?_;refine Z36 ?_;refine C1 Tryz.call51 (fun hB=>AO5 p.trees hp.len hp.tok _) ?_;refine Z85 ?_;refine Z73 ?_;refine C1 Tryz.call52 (fun hB=>c52 p.whr hp.ok _) ?_;refine Z53 ?_;refine A2 [1,2,3,6,7,29] ?_
 refine A4 (fun ht29=>?_) (fun ht29=>?_)
 ·have hm:=AK9 (rows:=rows) ht29
  refine Ez ?_;refine Gs ?_;refine Mb 0 2 ?_;refine zu ?_;exact Z99
 have hwr:Pp p c=false:=ht29
 refine Z3 ?_;refine Z24 ?_;refine A2 [1,2,3,6,7,8] ?_;refine Z30 ?_;refine A2 [1,2,3,6,7,8,32] ?_
 refine A4 (fun ht32=>?_) (fun ht32=>?_)
 ·have hm:=AKa (rows:=rows) hwr ht32
  refine Ez ?_;refine Gs ?_;refine Mb 0 2 ?_;refine zu ?_;exact Z99
 have hy:=AKb (rows:=rows) hwr ht32
 refine Z3 ?_;refine Z62 ?_;refine Mb 2 2 ?_
 refine Ma (fun hlow=>?_)
 refine Z12 ?_;refine A9 Tryz.call53 (c53 p c rows _) ?_;refine A2 [3,6,7,8,36] ?_;refine Lo ?_
 refine Nh (m:=3) Tryz.call99 (fun FR as' bd' hFR has hbd=>?_)
 have hFRl:∀s,Low (Hp.length+5) (FR s):=by
  intro s
  rw [hFR]
  refine Oi ?_
  revert s
  repeat (first|exact Bc|refine Bb (by first|(simp [oid,or_imp,forall_and];done)|(simp [oid,or_imp,forall_and]<;>(first|omega|((repeat' apply And.intro)<;>(intros;exact Am _ _))))) ?_)
 have hOl:∀{e:Int} {o:List Row} {lp:AObj},ObjLow (Hp.length+5) lp→∀x∈Hp++[AObj.cells 52 [AV.nil],AObj.cells 38 [A3 e],AObj.cells 52 [AV.slice true 2 ((o).map Eb)],AObj.defs,lp],ObjLow (Hp.length+5) x:=by
  intro e o lp hlp x hx
  refine Kp (fun x hx=>Nl (by omega) (hlow x hx)) (fun x hx=>?_) x hx
  simp only [B3,Et,or_false] at hx
  rcases hx with rfl|rfl|rfl|rfl|rfl
  ·intro y hy;rw [Bo.1 hy];simp
  ·intro y hy;rw [Bo.1 hy];simp
  ·intro y hy;rw [Bo.1 hy];exact cu
  ·trivial
  exact hlp
 refine ⟨_,c99 (oid Hp.length 4) p hp c hc rows hw (fun k=>Hp++[AObj.cells 52 [AV.nil],AObj.cells 38 [A3 0],AObj.cells 52 [AV.slice true 2 ((Ln (stP p c) (Ml p c) rows k).map Eb)],AObj.defs,AObj.loop LoopState.ready none FR 52 #[37,38] as' bd' (oid Hp.length 3)]) (NSt (stP p c) (Ml p c) p.lim rows) (fun V=>(∃o lp,V=Hp++[AObj.cells 52 [AV.nil],AObj.cells 38 [A3 0],AObj.cells 52 [AV.slice true 2 ((o).map Eb)],AObj.defs,lp]∧(lp=AObj.loop LoopState.ready none FR 52 #[37,38] as' bd' (oid Hp.length 3)∨lp=AObj.loop LoopState.done (some (Code.exit 0)) FR 52 #[37,38] as' bd' (oid Hp.length 3))∧Kw (stP p c) (Ml p c) p.lim rows []=(o,0))∨(∃e k,V=Hp++[AObj.cells 52 [AV.nil],AObj.cells 38 [A3 e],AObj.cells 52 [AV.slice true 2 ((Ln (stP p c) (Ml p c) rows k).map Eb)],AObj.defs,AObj.loop LoopState.done (some Code.ret) FR 52 #[37,38] as' bd' (oid Hp.length 3)]∧Kw (stP p c) (Ml p c) p.lim rows []=([],e))) (fun k=>by simp) (by simp [oid]) (fun k=>(fun x hx=>by rw [At];exact hOl (lp:=AObj.loop LoopState.ready none FR 52 #[37,38] as' bd' (oid Hp.length 3)) (by exact ⟨hFRl,by simp [oid]⟩) x hx)) ANt (fun k y hk hN he0 hf=>⟨AD7 hk hN he0 hf,by simp only [ct (h:=stP p c) hk hf]⟩) (fun k y X hk hN hne=>?_) (fun k y X hk hN he0 hf=>?_) (fun hN=>.inl ⟨_,_,rfl,.inl rfl,AGh hN⟩),?_⟩
 ·generalize hV:Hp++[AObj.cells 52 [AV.nil],AObj.cells 38 [A3 0],AObj.cells 52 [AV.slice true 2 ((Ln (stP p c) (Ml p c) rows k).map Eb)],AObj.defs,AObj.loop LoopState.ready none FR 52 #[37,38] as' bd' (oid Hp.length 3)]++X=V
  have hL:V[oid Hp.length 4]? = some (AObj.loop LoopState.ready none FR 52 #[37,38] as' bd' (oid Hp.length 3)):=by rw [←hV,B8,Ax];rfl
  have hA0:V[oid Hp.length 2]? = some (AObj.cells 52 [AV.slice true 2 ((Ln (stP p c) (Ml p c) rows k).map Eb)]):=by rw [←hV,B8,Ax];rfl
  have hB0:V[oid Hp.length 0]? = some (AObj.cells 52 [AV.nil]):=by rw [←hV,B8,Ax];rfl
  have hC0:V[oid Hp.length 1]? = some (AObj.cells 38 [A3 0]):=by rw [←hV,B8,Ax];rfl
  refine L8 (pd:=none) (fr:=FR) (sz:=52) (ps:=#[37,38]) (df:=oid Hp.length 3) (asg:=as') (bd:=bd') hL rfl (by decide) (fun d=>?_)
  subst hFR has hbd
  refine G9 [3,6,7,8,37,38] ?_;refine fh ?_;refine A2 [3,6,7,8,9,38] ?_;refine Z52 ?_;refine A2 [3,6,7,8,9,10] ?_
  refine ⟨rfl,none,hL,?_⟩
  generalize hbz:(AObj.loop LoopState.busy _ _ _ _ _ _ _)=bz
  have hA:(V.set (oid Hp.length 4) bz)[oid Hp.length 2]? = some (AObj.cells 52 [AV.slice true 2 ((Ln (stP p c) (Ml p c) rows k).map Eb)]):=by rw [Bx (Cb (by decide))];exact hA0
  have hB:(V.set (oid Hp.length 4) bz)[oid Hp.length 0]? = some (AObj.cells 52 [AV.nil]):=by rw [Bx (Cb (by decide))];exact hB0
  have hC:(V.set (oid Hp.length 4) bz)[oid Hp.length 1]? = some (AObj.cells 38 [A3 0]):=by rw [Bx (Cb (by decide))];exact hC0
  refine vh ?_;refine A2 [3,6,7,8,9,10,40] ?_
  refine A4 (fun ht40=>?_) (fun ht40=>?_)
  ·refine Z2 ?_
   refine Dp jS hB ?_ ?_
   ·simp
   refine Dp jS (ANv hC (Cb (by decide))) ?_ ?_
   ·simp
   refine j7 ?_;refine K.blR ?_
   subst hbz
   refine AEp ?_
   refine ⟨Hp++[AObj.cells 52 [AV.nil],AObj.cells 38 [A3 (stP p c y).2],AObj.cells 52 [AV.slice true 2 ((Ln (stP p c) (Ml p c) rows k).map Eb)],AObj.defs,_],?_,by simp,(fun x hx=>by rw [At];exact hOl (lp:=_) (by exact ⟨hFRl,by simp [oid]⟩) x hx),.inr ⟨_,_,rfl,AGf hk hN hne⟩⟩
   subst hV
   simp only [B8,Dm,E9,E5,List.set_cons_succ,List.set_cons_zero]
  exact absurd hne (by simpa using ht40)
 ·generalize hV:Hp++[AObj.cells 52 [AV.nil],AObj.cells 38 [A3 0],AObj.cells 52 [AV.slice true 2 ((Ln (stP p c) (Ml p c) rows k).map Eb)],AObj.defs,AObj.loop LoopState.ready none FR 52 #[37,38] as' bd' (oid Hp.length 3)]++X=V
  have hL:V[oid Hp.length 4]? = some (AObj.loop LoopState.ready none FR 52 #[37,38] as' bd' (oid Hp.length 3)):=by rw [←hV,B8,Ax];rfl
  have hA0:V[oid Hp.length 2]? = some (AObj.cells 52 [AV.slice true 2 ((Ln (stP p c) (Ml p c) rows k).map Eb)]):=by rw [←hV,B8,Ax];rfl
  have hB0:V[oid Hp.length 0]? = some (AObj.cells 52 [AV.nil]):=by rw [←hV,B8,Ax];rfl
  have hC0:V[oid Hp.length 1]? = some (AObj.cells 38 [A3 0]):=by rw [←hV,B8,Ax];rfl
  refine L8 (pd:=none) (fr:=FR) (sz:=52) (ps:=#[37,38]) (df:=oid Hp.length 3) (asg:=as') (bd:=bd') hL rfl (by decide) (fun d=>?_)
  subst hFR has hbd
  refine G9 [3,6,7,8,37,38] ?_;refine fh ?_;refine A2 [3,6,7,8,9,38] ?_;refine Z52 ?_;refine A2 [3,6,7,8,9,10] ?_
  refine ⟨rfl,none,hL,?_⟩
  generalize hbz:(AObj.loop LoopState.busy _ _ _ _ _ _ _)=bz
  have hA:(V.set (oid Hp.length 4) bz)[oid Hp.length 2]? = some (AObj.cells 52 [AV.slice true 2 ((Ln (stP p c) (Ml p c) rows k).map Eb)]):=by rw [Bx (Cb (by decide))];exact hA0
  have hB:(V.set (oid Hp.length 4) bz)[oid Hp.length 0]? = some (AObj.cells 52 [AV.nil]):=by rw [Bx (Cb (by decide))];exact hB0
  have hC:(V.set (oid Hp.length 4) bz)[oid Hp.length 1]? = some (AObj.cells 38 [A3 0]):=by rw [Bx (Cb (by decide))];exact hC0
  refine vh ?_;refine A2 [3,6,7,8,9,10,40] ?_
  refine A4 (fun ht40=>?_) (fun ht40=>?_)
  ·simp at ht40
  refine j9 ?_;refine AEg ?_
  refine Ek jU Tryz.type58 ?_ ?_ ?_
  ·have hwl:=hw.len;have:=ma (h:=stP p c) (g:=Ml p c) (rows:=rows) k;simp [Tryz.t58];omega
  ·have hwl:=hw.len;have:=ma (h:=stP p c) (g:=Ml p c) (rows:=rows) k;simp [Tryz.t58];omega
  refine G8 jS (getset hA) ?_ ?_
  ·exact cv
  refine A2 [3,8] ?_;refine Ez ?_
  refine A5 (h:=Bh (getset (getset hA))) (hr:=?_)
  refine Z58 ?_;refine A2 [50] ?_
  refine A4 (fun ht50=>?_) (fun ht50=>?_)
  ·refine am ?_;refine K.blO (by decide) ?_
   subst hbz
   refine K.rdE (ix hL (Cb (by decide)) (Cb (by decide))) ?_
   refine .inr ⟨rfl,Hp++[AObj.cells 52 [AV.nil],AObj.cells 38 [A3 0],AObj.cells 52 [AV.slice true 2 ((Ln (stP p c) (Ml p c) rows (k+1)).map Eb)],AObj.defs,_],?_,by simp,(fun x hx=>by rw [At];exact hOl (lp:=_) (by exact ⟨hFRl,by simp [oid]⟩) x hx),.inl ⟨_,_,rfl,.inr rfl,AGg hk hN he0 hf (by simpa using ht50)⟩⟩
   subst hV
   simp only [B8,Dm,E9,E5,List.set_cons_succ,List.set_cons_zero]
   rw [Wi hk hf,Bj]
   rfl
  refine vf ?_
  subst hbz
  refine AAc ?_
  refine .inl ⟨rfl,AJx hk hN he0 hf (by simpa using ht50),?_⟩
  subst hV
  simp only [B8,Dm,E9,E5,List.set_cons_succ,List.set_cons_zero]
  rw [Wi hk hf,Bj]
  rfl
 rintro r H' (⟨o,lp,rfl,rfl|rfl,hrun⟩|⟨e,k,rfl,hrun⟩)
 ·refine ⟨Hp,_,_,_,rfl,rfl,fun h=>h,?_,rfl,by simp,?_⟩
  ·intro o ho
   have:o=oid Hp.length 3:=by simpa using ho
   subst this
   rw [Ax]
   rfl
  refine Z11 ?_;refine Vy ?_;exact AKs
 ·refine ⟨Hp,_,_,_,rfl,rfl,fun h=>h,?_,rfl,by simp,?_⟩
  ·intro o ho
   have:o=oid Hp.length 3:=by simpa using ho
   subst this
   rw [Ax]
   rfl
  refine am ?_;refine K.blE ?_;refine H4 ?_;refine Vy ?_;exact AKs
 refine ⟨Hp,_,_,_,rfl,rfl,fun h=>h,?_,rfl,by simp,?_⟩
 ·intro o ho
  have:o=oid Hp.length 3:=by simpa using ho
  subst this
  rw [Ax]
  rfl
 refine W.nilOwn 0 2 ?_;refine jb ?_;exact Aa (B5 (Fp jA) (Fp jA)) ⟨by rw [hy,hrun];rfl,rfl⟩

theorem AH6 {rows:List Row} (h:Qv rows=false) (hg:∀x∈rows,∀v∈x.l, -9223372036854775808≤v.n∧v.n≤9223372036854775807):RW rows∧rows.length≤60:=by
 unfold Qv at h
 simp only [E3,decide_eq_false_iff_not] at h
 obtain ⟨h1,h2⟩:=h
 refine ⟨⟨by omega,fun x hx=>⟨?_,hg x hx⟩⟩,by omega⟩
 have h3:=If.1 h2 x hx
 exact AD2 (by simpa using h3)
theorem yn {q:Qry} {c:List Col} {rows:List Row} (hw:RW rows) (hq:q.cols.length≤1048576) (k:Nat):∀x∈H9 q c rows k,x.l.length≤1048576:=by
 intro x hx
 unfold H9 at hx
 obtain ⟨y,hy,rfl⟩:=C3.1 hx
 have h1:=(hw.each y (N1 (W5.1 hy).1)).1
 unfold K4
 show (if q.all=true then y.l else q.cols.map _).length≤1048576
 split
 ·exact h1
 rw [An];exact hq
theorem Zm {q:Qry} {c:List Col} {rows:List Row}:∀(r:List Row) (k:Nat),rows.drop k=r→(Mk q c r (H9 q c rows k)).1=[]∨∃j,(Mk q c r (H9 q c rows k)).1=H9 q c rows j
 | [],k,_=>.inr ⟨k,rfl⟩
 | x::r,k,hk=>by
  have hx:rows[k]? = some x:=by
   have:(rows.drop k)[0]? = some x:=by rw [hk];rfl
   simpa using this
  have hr:rows.drop (k+1)=r:=by
   have:=Tb hx
   rw [hk] at this
   injection this with _ h
   exact h.symm
  rw [Mk]
  split
  ·exact .inl rfl
  split
  ·rename_i h1
   have e:=Ta hx h1
   split
   ·exact .inr ⟨k+1,e.symm⟩
   rw [←e];exact Zm r (k+1) hr
  rename_i h1
  rw [←Ut hx (by simpa using h1)]
  exact Zm r (k+1) hr
theorem AH7 {q:Qry} {c:List Col} {rows:List Row} (hw:RW rows) (hq:q.cols.length≤1048576):(Up q c rows).1.length≤rows.length∧∀x∈(Up q c rows).1,x.l.length≤1048576:=by
 unfold Up
 split
 ·exact ⟨Aq _,fun x hx=>by cases hx⟩
 rcases Zm (q:=q) (c:=c) (rows:=rows) rows 0 rfl with h|⟨j,h⟩
 ·rw [show ([]:List Row)=H9 q c rows 0 from rfl,h]
  exact ⟨Aq _,fun x hx=>by cases hx⟩
 rw [show ([]:List Row)=H9 q c rows 0 from rfl,h]
 exact ⟨Zb _ _ _ _,yn hw hq j⟩
theorem AH8 {q:Qry} {c:List Col} {l:List Expr} (hq:QW q) (ht:TOk l) (hl:l.length≤1048576):PW (Lm q c l).1:=by
 have h1:(∀e∈Iy q c l,okE 61 e∧Dq Ge e=true)∧(Iy q c l).length≤1048576:=by
  unfold Iy
  split
  ·exact ⟨fun e he=>⟨ht.ok e he,ht.rng e he⟩,hl⟩
  refine ⟨fun e he=>?_,by rw [An];exact hq.len⟩
  obtain ⟨s,_,rfl⟩:=C3.1 he
  unfold Kg
  rw [Cc]
  cases hx:l[(Ay s c).toNat]? with
  | none=>exact ⟨Sn (by decide),by kernel_rfl⟩
  | some y=>exact ⟨ht.ok y (Aw hx),ht.rng y (Aw hx)⟩
 have h0:okE 61 Av∧Dq Ge Av=true:=⟨Sn (by decide),by kernel_rfl⟩
 unfold Lm
 split
 ·exact ⟨h0.1,h0.2,fun e he=>(h1.1 e he).1,fun e he=>(h1.1 e he).2,h1.2⟩
 split
 ·exact ⟨h0.1,h0.2,(fun e he=>by cases he),(fun e he=>by cases he),Aq _⟩
 rename_i h2
 have:=ll hq.ok hq.rng ht (by simpa using h2)
 exact ⟨this.1,this.2.1,fun e he=>(h1.1 e he).1,fun e he=>(h1.1 e he).2,h1.2⟩
theorem AKc {q:Qry} {c:List Col} {l:List Mov} (hq:QW q) (hc:OkCols c) (h:OkMovs l) (h0:(Eo q c l).2=0):PW (Eo q c l).1:=by
 obtain ⟨hL,_,hF,e⟩:=mo h0
 obtain ⟨hs,hB⟩:=Wj hc h hL
 obtain ⟨ht,hl⟩:=mb hc h hs
 rw [e]
 exact AH8 hq ht (by rw [hl hF];exact hB.len)
theorem AH9 {c:List Col} {l:List Mov} {rows:List Row} (hc:OkCols c) (h:OkMovs l) (hw:RW rows) (hf:∀x∈rows,(Gu c l x.l).2=0):RW (rows.map (Zl c l)):=by
 refine ⟨by rw [An];exact hw.len,fun y hy=>?_⟩
 obtain ⟨x,hx,rfl⟩:=C3.1 hy
 obtain ⟨⟨_,_,_,hR⟩,_,_⟩:=Zj h (hw.each x hx).2 (hf x hx)
 exact ⟨by show (Gu c l x.l).1.length≤1048576;rw [hR.len];exact (Jj hc (fun m hm=>h.each m hm) _).len,m8 hR.fine⟩
theorem AHa {α:Type} {l:List α} {i:Nat} {p:α→Prop} (hi:l.length≤i) (h:∀(j:Nat) (y:α),j<i→l[j]? = some y→p y):∀x∈l,p x:=fun x hx=>by
 obtain ⟨j,hj⟩:=C6 hx
 exact h j x (by have:=(Ad.1 hj).1;omega) hj
theorem c4 (q:Qry) (hg:Dq Ge q.whr=true) (c:List Col) (l:List Mov) (hrl:∀m∈l,RngMv m) (rows:List Row) (hgr:∀x∈rows,∀v∈x.l, -9223372036854775808≤v.n∧v.n≤9223372036854775807) (Hp:List AObj):AFun Tryz.prog 4 [Rq q,Ar c,Fu l,Hc rows] Hp (B0 true):=by
 refine Ae [.tmp 8] [0,1,2,3] Tryz.func4 Tryz.ntmps4 (fun d=>?_)
 refine Z1 ?_;refine A2 [1,2,3,4] ?_;refine Z62 ?_;refine A9 Tryz.call7 (c7 _) ?_;refine A5 ?_;refine A2 [1,2,3,4,22] ?_
 refine A4 (fun ht22=>?_) (fun ht22=>?_)
 ·cases ht22
 refine Qh ?_;refine A9 Tryz.call8 (c8 q _) ?_;refine A5 ?_;refine Cp ?_;refine C1 Tryz.call9 (fun hB=>c6u c _) ?_;refine Qf ?_;refine C1 Tryz.call10 (fun hB=>c10 l _) ?_;refine Qf ?_;refine C1 Tryz.call19 (fun hB=>c19 rows _) ?_;refine A5 ?_;refine A2 [1,2,3,4,36] ?_
 refine A4 (fun ht36=>?_) (fun ht36=>?_)
 ·refine Z2 ?_;refine A2 [8] ?_;exact ALn
 have hw:((T5 q=false∧Lx c=false)∧Iv l=false)∧Qv rows=false:=by simpa using ht36
 have hq:=ANi hw.1.1.1 hg
 have hc:=sg hw.1.1.2
 have hc2:c.length≤1000000:=ADh hw.1.1.2
 have h:OkMovs l:=d7 hw.1.2 hrl
 obtain ⟨hwR,hr60⟩:=AH6 hw.2 hgr
 refine Z3 ?_;refine Z40 ?_;refine I0 ?_;refine A2 [1,2,3,4,9] ?_;refine Z31 ?_;refine A2 [1,2,3,4,9,10] ?_
 refine Bg (α:=Nat) (fun i=>⟨108,A6 1 (Ar c) (A6 2 (Fu l) (A6 3 (Hc rows) (A6 4 (.ro (qoC false q)) (A6 9 (.slice true 2 (((rows.take i).map (Zl c l)).map Eb)) (A6 10 (A3 (i:Nat)) (fun _=>.any)))))),Hp,[],[],none⟩) (fun i=>i≤rows.length∧∀(j:Nat) (y:Row),j<i→rows[j]? = some y→((Gu c l y.l).2 != 0)=false) (fun i=>rows.length-i) (0) ⟨Aq _,fun j y h=>by omega⟩ (Bl (by simp)) rfl (fun i hi=>?_)
 refine Z88 ?_;refine A2 [1,2,3,4,9,10,41] ?_
 refine A4 (fun ht41=>?_) (fun ht41=>?_)
 ·have hlt:i<rows.length:=by simpa using ht41
  refine Tx ?_;refine Z23 ?_
  refine A5 (h:=Ah (i) (Eb rows[i]) (fun _=>B7 hlt)) (hr:=?_)
  refine Z0 ?_;refine A9 Tryz.call20 (c20 c hc hc2 l h rows[i].l (hwR.at hlt).2 (hwR.at hlt).1 _) ?_;refine Z75 ?_;refine A2 [1,2,3,4,9,10,11,12] ?_;refine Z7 ?_;refine A2 [1,2,3,4,9,10,11,56] ?_
  refine A4 (fun ht56=>?_) (fun ht56=>?_)
  ·refine Z2 ?_;refine A2 [8] ?_;refine Z34 ?_;refine Z51 ?_;exact AEr
  refine Z3 ?_;refine fe ?_;refine Z0 ?_
  refine A5 (h:=Ah (i) (Eb rows[i]) (fun _=>B7 hlt)) (hr:=?_)
  refine Z12 ?_;refine jk ?_;refine Sd ?_
  refine Ek jU Tryz.type58 ?_ ?_ ?_
  ·simp only [An,C0,B2,Bz,Tryz.t58];omega
  ·simp only [An,C0,B2,Bz,Tryz.t58];omega
  refine I0 ?_;refine A2 [1,2,3,4,9,10] ?_;refine Z11 ?_;refine Z47 ?_;refine A2 [1,2,3,4,9,10] ?_;refine Bm (i+1) ⟨hlt,D3 hlt hi.2 ht56⟩ (by omega) ?_;exact Ds (by simp only [Ss hlt,Bj,Bk,Dr];rfl)
 have hxe:rows.length≤i:=by simpa using ht41
 rw [Ej hxe]
 have hf:=AHa hxe hi.2
 have hx:∀x∈rows,(∀v∈x.l, -9223372036854775808≤v.n∧v.n≤9223372036854775807)∧(Gu c l x.l).2=0:=fun x hx=>⟨hgr x hx,by simpa using hf x hx⟩
 have hwN:=AH9 hc h hwR (fun x hx'=>(hx x hx').2)
 refine Sc ?_;refine Z15 ?_;refine A9 Tryz.call11 (c11 q hq c hc hc2 l h _) ?_;refine Ra ?_;refine A2 [1,2,3,4,9,13,14] ?_;refine Z1 ?_;refine A9 Tryz.call21 (c21 c hc hc2 l h _) ?_;refine Z75 ?_;refine A2 [1,3,4,9,13,14,15,16] ?_;refine Z30 ?_;refine fl ?_;refine A2 [1,3,4,9,13,15,85] ?_
 refine A4 (fun ht85=>?_) (fun ht85=>?_)
 ·refine Z2 ?_;refine A2 [8] ?_;exact ALn
 have h85:(Eo q c l).2=0∧(Dw c l).2=0:=by simpa using ht85
 have h0:=h85.1
 obtain ⟨hs,hB⟩:=Wj hc h (by rw [h85.2];rfl)
 have hpw:=AKc hq hc h h0
 have hfa:=AH7 (q:=q) (c:=(Dw c l).1) hwN hq.len
 rw [An] at hfa
 have hfa:(Up q (Dw c l).1 (rows.map (Zl c l))).1.length≤1048576∧_:=⟨by omega,hfa.2⟩
 refine Rb ?_;refine A9 Tryz.call22 (c22 (Eo q c l).1 hpw c hc rows hwR _) ?_;refine Z75 ?_;refine A2 [4,9,15,17,18] ?_;refine Z15 ?_;refine A9 Tryz.call23 (c23 q hq (Dw c l).1 hB (rows.map (Zl c l)) hwN _) ?_;refine Z75 ?_;refine A2 [17,18,19,20] ?_;refine Ez ?_
 rw [AK8 h hx h0 hs]
 refine Z0 ?_;refine Z36 ?_;refine C1 Tryz.call24 (fun hB=>c24 (Up q (Dw c l).1 (rows.map (Zl c l))).1 (Up q (Dw c l).1 (rows.map (Zl c l))).1 hfa.1 hfa.2 _) ?_;refine Z0 ?_;refine A2 [8] ?_;refine G5 ?_;exact AEr

end Go.SX.Nb
namespace Go.Proofs.YtekiioamifokoaaGreatDoor
open Go Go.SX Go.SX.Nb Go.ChangeShapes Go.RowKit
set_option maxRecDepth 100000
theorem yo:Tryz.pinned.checked.prog.funcNamed Rows.rewriteForthRow.func=some 4:=by kernel_rfl
theorem AHb:laidOutB Tryz.pinned.checked.prog=true:=by kernel_rfl
theorem AHc:(Rows.rewriteForthRow.inPlace==Tryz.pinned.checked.prog.inPlace 4)=true:=by kernel_rfl
theorem AHd:(Rows.rewriteForthRow.unfollowed==Tryz.pinned.checked.prog.unfollowed 4)=true:=by kernel_rfl
theorem AHe:(Rows.rewriteForthRow.recurses==Tryz.pinned.checked.prog.recurses 4)=true:=by kernel_rfl
theorem AHf:(Rows.rewriteForthRow.named==Tryz.pinned.checked.prog.varsNamed 4)=true:=by kernel_rfl
theorem AHg:Tryz.pinned.checked.prog.mayEnter=true:=by kernel_rfl
theorem qx:joinedFacts Tryz.pinned.checked.prog 4 Tryz.f4 (OpenSpec.ofChange Rows.rewriteForthSpec).bare Rows.rewriteForthRow=true:=by
 unfold joinedFacts
 rw [AHb,AHc,AHd,AHe,AHf,AHg]
 kernel_rfl
theorem yp:false=Rows.rewriteForthRow.goesBy Tryz.pinned.checked.prog:=by kernel_rfl
theorem yq:Tryz.f4.isInstance Tryz.pinned.checked.prog Rows.rewriteForthRow.origin Rows.rewriteForthRow.targs:=of_decide_eq_true (by kernel_rfl)
theorem yr:Tryz.f4.isWrapper Tryz.pinned.checked.prog Rows.rewriteForthRow.wrapper Rows.rewriteForthRow.mainSum:=by
 unfold Func.isWrapper
 first|(rw [if_pos (by decide +kernel)];kernel_rfl)|(rw [if_neg (by decide +kernel)];exact ⟨rfl,rfl⟩)
end Go.Proofs.YtekiioamifokoaaGreatDoor
