/- On the way (part 8). -/
import Derived.Lib.ItoaLen
import Derived.Test.YtekiioamifokoaaGreatDoorRewriteTellsCardSaidPart7
set_option linter.all false
namespace Go.SX.Nb
open Go Go.SX Go.Proofs
variable [ErrAt]
set_option maxRecDepth 4000
theorem c92 (l:List Col) (hl:l.length≤1000000) (Hp:List AObj):AFun Tryz.prog 92 [Ai l] Hp (Ai l):=by
 refine Ah [.tmp 2] [0] Tryz.func92 Tryz.ntmps92 (fun d=>?_)
 refine nk ?_
 refine R.eqlNil jU (by kernel_rfl) (fun b hb=>?_)
 refine A2 [0,4] ?_
 refine A3 (fun ht4=>?_) (fun ht4=>?_)
 ·have hl0:l=[]:=by simpa using hb ht4
  subst hl0
  refine Z2 ?_;refine R.nilTmp 2 2 false ?_;refine Z3 ?_;refine Gg ?_;exact A9 (Aj A8) ⟨rfl,rfl⟩
 refine Z4 ?_;refine Z29 ?_;refine A5 ?_
 refine D5 jU Tryz.type69 ?_ ?_ ?_
 ·simp [Tryz.t69];omega
 ·simp [Tryz.t69];omega
 refine Kk ?_;refine Z3 ?_;exact A9 (Aj A8) ⟨rfl,rfl⟩

theorem ABl {Hp:List AObj} {y:Col} {n:Nat} (h:∀x∈Hp,ObjLow Hp.length x):∀x∈Hp++[AObj.cells 69 [],AObj.cells 69 (Ab y.name::A4 y.kind::List.replicate n AV.any)],ObjLow (Hp.length+2) x:=by
 intro x hx
 rcases Ds.1 hx with hx|hx
 ·exact Nv (by omega) (h x hx)
 simp only [B3,Dt,or_false] at hx
 rcases hx with rfl|rfl
 ·intro z hz;cases hz
 intro z hz
 simp only [B3] at hz
 rcases hz with rfl|rfl|hz
 ·simp
 ·simp
 rw [List.eq_of_mem_replicate hz];simp
theorem AP2 (y:Col) (Hp:List AObj):ACallO Tryz.prog 92 [Ai [y]] Hp (fun r H'=>∃cc,1≤cc∧r=.sl (oid Hp.length 1) 2 1 cc∧H'=Hp++[.cells 69 [],.cells 69 (Ab y.name::A4 y.kind::List.replicate ((cc-1)*2) AV.any)]):=by
 refine ACallO.body [.tmp 2] [0] Tryz.func92 Tryz.ntmps92 (fun d=>?_)
 refine Z44 ?_;refine Z53 ?_
 refine Mm (fun hlow=>?_)
 refine A5 ?_
 refine R.eqlNil jU (by kernel_rfl) (fun b hb=>?_)
 refine A2 [0,4] ?_
 refine A3 (fun ht4=>?_) (fun ht4=>?_)
 ·exact absurd (hb ht4) (by simp)
 refine ir ?_;refine R.buildObj0 (n:=0) jU Tryz.sizeOf69 ?_;refine A5 ?_
 refine R.appendObj (k:=2) (n:=1) jU Tryz.type69 (show [Bl y]≠[] by simp) ?_ ?_ (fun cc hcc=>?_)
 ·simp [Tryz.t69]
 ·simp
 have e0:My [Bl y]++List.replicate ((cc-[Bl y].length)*2) AV.any=Ab y.name::A4 y.kind::List.replicate ((cc-1)*2) AV.any:=rfl
 rw [e0]
 clear e0
 refine A5 ?_;refine Z3 ?_;exact K.finO 2 (A8 (t:=2)) ⟨cc,hcc,rfl,rfl⟩ (hlow:=by simp [oid]) (hobj:=ABl hlow)

theorem AMa (c:List Col) (hc:OkCols c) (m:Mov) (h:OkMov m) (h3:(m.kind==3)=false) (Hp:List AObj):AFun Tryz.prog 164 [Ai c,G5 m] Hp (Ai (Bf c m)):=by
 refine Ah [.tmp 4] [0,1] Tryz.func164 Tryz.ntmps164 (fun d=>?_)
 refine nb ?_;refine Z1 ?_;refine Aa Tryz.call92 (c92 m.give h.gives2 _) ?_;refine A5 ?_;refine ADd ?_;refine A2 [0,3,5,12] ?_
 refine A3 (fun ht12=>?_) (fun ht12=>?_)
 ·rw [h3] at ht12;cases ht12
 refine Nr ?_;exact AK0

theorem AMb (c:List Col) (hc:OkCols c) (m:Mov) (h:OkMov m) (h3:(m.kind==3)=true) (s:Str) (y:Col) (ht:m.take=[s]) (hg:m.give=[y]) (Hp:List AObj):AFun Tryz.prog 164 [Ai c,G5 m] Hp (Ai (Bf c m)):=by
 have hgv:=t4 (c:=c) h3 ht hg
 have hgy:=kz (c:=c) h3 ht hg
 obtain ⟨kd,tk,gv,ah,bk⟩:=m
 simp only at ht hg h3
 subst ht hg
 refine Ah [.tmp 4] [0,1] Tryz.func164 Tryz.ntmps164 (fun d=>?_)
 refine nb ?_;refine Z1 ?_;refine R.callO Tryz.call92 (AP2 y _) ?_
 rintro _ _ ⟨cc,hcc,rfl,rfl⟩
 refine ⟨[.cells 69 [],.cells 69 (Ab y.name::A4 y.kind::List.replicate ((cc-1)*2) AV.any)],by simp,?_⟩
 simp only [Ha,E3]
 refine A5 ?_;refine ADd ?_;refine A2 [0,3,5,12] ?_
 refine A3 (fun ht12=>?_) (fun ht12=>?_)
 ·refine Z16 ?_
  refine A5 (h:=Ad (0) (Ab s) (fun _=>rfl)) (hr:=?_)
  refine A5 ?_;refine Aa Tryz.call60 (c60 c hc s _) ?_;refine A5 ?_;refine A2 [0,5,6] ?_;refine Z1 ?_;refine A2 [0,5,6,20] ?_
  refine A3 (fun ht20=>?_) (fun ht20=>?_)
  ·have hf:¬At s c<0:=by simp at ht20;omega
   obtain ⟨jj,hjj,hjc⟩:=Fl hf
   refine Z74 ?_
   refine A5 (h:=Ad ((At s c).toNat) (Bl (c.getD (At s c).toNat ⟨[],0⟩)) (fun _=>W6 hf)) (hr:=?_)
   refine Z0 ?_;refine R.indexAddrSl (n:=1) 0 jU Tryz.sizeOf69 (by decide) ?_
   refine A5 (h:=Q.fieldAddrPtr (hc:=rfl)) (hr:=?_)
   refine dt (y:=A4 (c.getD (At s c).toNat ⟨[],0⟩).kind) (ys:=[A4 (c.getD (At s c).toNat ⟨[],0⟩).kind]) (n:=1) (cs:=Ab y.name::A4 y.kind::List.replicate ((cc-1)*2) AV.any) (cs':=Ab y.name::A4 (c.getD (At s c).toNat ⟨[],0⟩).kind::List.replicate ((cc-1)*2) AV.any) (t':=69) jS ?_ (hc:=rfl) (hput:=rfl) (hfit:=by simp)
   refine A2 [5] ?_;refine Gf ?_;refine Z93 ?_;exact ADb
  have hf:At s c<0:=by simp at ht20;omega
  refine Z4 ?_;refine AJg ?_;exact ADb
 rw [h3] at ht12;cases ht12

/-- What a move must have before it is turned. -/
structure MvOk (m:Mov):Prop where
 ok:OkMov m
 ahead:m.ahead.length=m.give.length
 back:m.back.length=m.take.length
 one:(m.kind==3)=true→m.take.length=1∧m.give.length=1
theorem t7 {m:Mov} (h:OkMov m) (hc:Fk m=true):MvOk m:=⟨h,(Gm hc).1,(Gm hc).2,fun h3=>Pn hc (by rw [h3];rfl)⟩
theorem AP3 (c:List Col) (hc:OkCols c) (m:Mov) (h:MvOk m) (Hp:List AObj):AFun Tryz.prog 164 [Ai c,G5 m] Hp (Ai (Bf c m)):=by
 cases h3:m.kind==3 with
 | false=>exact AMa c hc m h.ok h3 Hp
 | true =>
  obtain ⟨h1,h2⟩:=h.one h3
  obtain ⟨s,hs⟩:=fx h1
  obtain ⟨y,hy⟩:=fx h2
  exact AMb c hc m h.ok h3 s y hs hy Hp
theorem c84 (c:List Col) (hc:OkCols c) (m:Mov) (h:MvOk m) (Hp:List AObj):AFun Tryz.prog 84 [Ai c,G5 m] Hp (Ai (Bf c m)):=by
 cases h3:m.kind==3 with
 | false=>exact AP0 c hc m h.ok h3 Hp
 | true =>
  obtain ⟨h1,h2⟩:=h.one h3
  obtain ⟨s,hs⟩:=fx h1
  obtain ⟨y,hy⟩:=fx h2
  exact AP1 c hc m h.ok h3 s y hs hy Hp
theorem Y8 {c:List Col} {m:Mov} (h:OkMov m):OkCols (Bf c m):=by
 refine ⟨by rw [It];exact K9 h.gives2 (by decide),fun y hy=>?_⟩
 unfold Bf at hy
 split at hy
 ·split at hy
  ·exact h.gives.2 y hy
  cases hg:m.give with
  | nil=>rw [hg] at hy;cases hy
  | cons z r =>
   rw [hg] at hy
   rcases B3.1 hy with rfl|hy
   ·exact h.gives.2 z (by rw [hg];exact Iy)
   exact h.gives.2 y (by rw [hg];exact K7 _ hy)
 exact h.gives.2 y hy
theorem Y9 {c give:List Col} {take:List Str} (hc:OkCols c) (hg:OkCols give) (hg2:give.length≤1000000):OkCols (D9 c take give).1:=by
 have h0:OkCols ([]:List Col):=⟨by decide,fun y hy=>by cases hy⟩
 unfold D9
 split
 ·exact h0
 rename_i hr
 split
 ·exact h0
 split
 ·exact h0
 split
 ·exact h0
 split
 ·exact h0
 exact pw hc (by simpa using hr) hg hg2 rfl
theorem Ya {c give:List Col} {take:List Str} (h:((D9 c take give).2 != 0)=false):∀s∈take,¬At s c<0:=by
 have ht:Gl c take=true:=by
  unfold D9 at h
  split at h
  ·cases h
  split at h
  ·cases h
  rename_i ht
  simpa using ht
 intro s hs hf
 obtain ⟨j,hj⟩:=C9 hs
 have:=takenM_true.1 ht j s hj
 unfold Hu at this
 rw [show decide (At s c<0)=true by simpa using hf] at this
 simp at this
theorem Uj {over:List Col} {l:List Expr} {w:List Col} {x:Nat} (hl:x<l.length) (hw:x<w.length):
  Dp over (l.drop x) (w.drop x)=if Pm l[x] over w[x].kind != 0 then Pm l[x] over w[x].kind else Dp over (l.drop (x+1)) (w.drop (x+1)):=by
 rw [N8 hl,N8 hw]
 rfl
theorem Yb {over:List Col} {l:List Expr} {w:List Col} {x:Nat} (hl:l.length≤x):Dp over (l.drop x) (w.drop x)=0:=by
 rw [List.drop_eq_nil_of_le hl]
 cases w.drop x<;>rfl
theorem Iu {α β:Type} {f:α→β} {l:List α} {x:Nat} (h:x<l.length):(l.take (x+1)).map f=(l.take x).map f++[f l[x]]:=by
 rw [Id h,Bn];rfl
theorem t8 {c:List Col} {m:Mov} (h:((D9 c m.take (Bf c m)).2 != 0)=true):Ba c m=([],(D9 c m.take (Bf c m)).2):=if_pos h
theorem tc {c:List Col} {m:Mov} (h:((D9 c m.take (Bf c m)).2 != 0)=false) (h2:(Dp c m.ahead (Bf c m) != 0)=true):Ba c m=([],Dp c m.ahead (Bf c m)):=by
 unfold Ba;rw [if_neg (by rw [h];simp),if_pos h2]
theorem td {c:List Col} {m:Mov} (h:((D9 c m.take (Bf c m)).2 != 0)=false) (h2:(Dp c m.ahead (Bf c m) != 0)=false) (h3:(Dp (D9 c m.take (Bf c m)).1 m.back (Ip c m) != 0)=true):Ba c m=([],Dp (D9 c m.take (Bf c m)).1 m.back (Ip c m)):=by
 unfold Ba;rw [if_neg (by rw [h];simp),if_neg (by rw [h2];simp),if_pos h3]
theorem tg {c:List Col} {m:Mov} (h:((D9 c m.take (Bf c m)).2 != 0)=false) (h2:(Dp c m.ahead (Bf c m) != 0)=false) (h3:(Dp (D9 c m.take (Bf c m)).1 m.back (Ip c m) != 0)=false):Ba c m=((D9 c m.take (Bf c m)).1,0):=by
 unfold Ba;rw [if_neg (by rw [h];simp),if_neg (by rw [h2];simp),if_neg (by rw [h3];simp)]
theorem AMc (l:List Expr) (h:OkEs l) (w:List Col) (hw:w.length=l.length) (c:List Col) (hc:OkCols c) (Hp:List AObj):AFun Tryz.prog 166 [Bd l,Ai w,Ai c] Hp (A4 (Dp c l w)):=by
 refine Ah [.tmp 6] [0,1,2] Tryz.func166 Tryz.ntmps166 (fun d=>?_)
 refine Z2 ?_;refine en ?_;refine Z30 ?_;refine A2 [1,2,11,12,13] ?_
 refine Bg (α:=Nat) (fun x=>⟨37,A6 1 (Ai w) (A6 2 (Ai c) (A6 11 (Bd l) (A6 12 (A4 (l.length:Nat)) (A6 13 (A4 (x:Nat)) (fun _=>.any))))),Hp,[],[],none⟩) (fun x=>x≤l.length∧Dp c l w=Dp c (l.drop x) (w.drop x)) (fun x=>l.length-x) (0) ⟨Ao _,rfl⟩ (B4 (by simp)) rfl (fun x hx=>?_)
 refine Z2 ?_;refine A2 [1,2,11,12,13,14] ?_
 refine E2 (fun ht14=>?_) (fun ht14=>?_)
 ·have hlt:x<l.length:=by simpa using ht14
  have hlw:x<w.length:=by omega
  have hlen:=h.len
  have hst:=Uj (over:=c) hlt hlw
  refine X1 ?_
  refine A5 (h:=Ad (x) (A7 l[x]) (fun _=>Ar hlt)) (hr:=?_)
  refine A5 ?_;refine iq ?_;refine A2 [1,2,7,8,11,12,13] ?_;refine Z7 ?_;refine Aa Tryz.call62 (c62 61 l[x] (h.ok _ (As hlt)) (by decide) c hc _) ?_;refine Z82 ?_;refine A2 [1,2,7,8,10,11,12,13] ?_;refine Z1 ?_;refine A2 [1,2,7,8,10,11,12,13,25] ?_
  refine A3 (fun ht25=>?_) (fun ht25=>?_)
  ·have he:Pm l[x] c w[x].kind=(Ej l[x] c).2:=if_pos ht25
   have hm:Dp c l w=(Ej l[x] c).2:=by rw [hx.2,hst,he,if_pos ht25]
   refine Z1 ?_;refine n9 ?_;exact Z62
  refine Z4 ?_;refine Er [0,0,0,0,12,28,60,127,255] 7 Ap (by kernel_rfl) ?_;refine Rb ?_
  refine Av (h:=Ad (x) (Bl w[x]) (fun _=>Ar hlw)) (hr:=?_)
  refine Z10 ?_;refine Hf ?_;refine Aa Tryz.call63 (c63 61 l[x] (h.ok _ (As hlt)) (by decide) c hc w[x].kind _) ?_;refine A5 ?_;refine A2 [1,2,11,12,13,35] ?_
  refine A3 (fun ht35=>?_) (fun ht35=>?_)
  ·have he:Pm l[x] c w[x].kind=10:=by unfold Pm;rw [if_neg (by rw [ht25];simp),if_pos ht35]
   have hm:Dp c l w=10:=by rw [hx.2,hst,he];rfl
   refine Z2 ?_;refine Z92 ?_;exact Z62
  have he:Pm l[x] c w[x].kind=0:=by unfold Pm;rw [if_neg (by rw [ht25];simp),if_neg (by rw [ht35];simp)]
  have hnx:Dp c l w=Dp c (l.drop (x+1)) (w.drop (x+1)):=by rw [hx.2,hst,he];rfl
  refine Ra ?_;refine A2 [1,2,11,12,13] ?_;refine Au (x+1) ⟨hlt,hnx⟩ (by omega) ?_
  exact Di (own:=[]) (fun _=>.refl _) (by repeat (first|exact Bt|refine Bs (by first|(simp [or_imp,forall_and];done)|exact Cv) ?_)) (by simp) (by simp)
 have hxe:l.length≤x:=by simpa using ht14
 have hm:Dp c l w=0:=by rw [hx.2,Yb hxe]
 refine Wz ?_;exact AKm

theorem AP4 (c:List Col) (hc:OkCols c) (m:Mov) (h:OkMov m) (hf:∀s∈m.take,¬At s c<0) (Hp:List AObj):AFun Tryz.prog 167 [Ai c,G5 m] Hp (Ai (Ip c m)):=by
 refine Ah [.tmp 4] [0,1] Tryz.func167 Tryz.ntmps167 (fun d=>?_)
 refine nb ?_;refine Z2 ?_;refine A2 [0,3,5] ?_;refine Z53 ?_;refine Tr 5 2 ?_;refine Z75 ?_;refine A2 [0,5,9,10,11] ?_
 refine Bg (α:=Nat) (fun x=>⟨26,A6 0 (Ai c) (A6 5 (.slice true 2 (((m.take.take x).map fun s=>c.getD (At s c).toNat ⟨[],0⟩).map Bl)) (A6 9 (E4 m.take) (A6 10 (A4 (m.take.length:Nat)) (A6 11 (A4 (x:Nat)) (fun _=>.any))))),Hp,[],[],none⟩) (fun x=>x≤m.take.length) (fun x=>m.take.length-x) (0) (Ao _) (B4 (by simp)) rfl (fun x hx=>?_)
 refine Z2 ?_;refine A2 [0,5,9,10,11,12] ?_
 refine E2 (fun ht12=>?_) (fun ht12=>?_)
 ·have hlt:x<m.take.length:=by simpa using ht12
  have htk:=h.takes
  have hfx:=hf _ (As hlt)
  obtain ⟨jj,hjj,hjc⟩:=Fl hfx
  refine Tt ?_
  refine A5 (h:=Ad (x) (Ab m.take[x]) (fun _=>Ar hlt)) (hr:=?_)
  refine Z0 ?_;refine A2 [0,5,7,9,10,11] ?_;refine Z83 ?_;refine Z8 ?_;refine Aa Tryz.call60 (c60 c hc m.take[x] _) ?_
  refine A5 (h:=Ad ((At m.take[x] c).toNat) (Bl (c.getD (At m.take[x] c).toNat ⟨[],0⟩)) (fun _=>W6 hfx)) (hr:=?_)
  refine Z55 ?_
  refine D5 jU Tryz.type69 ?_ ?_ ?_
  ·simp only [Ag,Bx,B8,Bq,Tryz.t69];omega
  ·simp only [Ag,Bx,B8,Bq,Tryz.t69];omega
  refine Kk ?_;refine A2 [0,5,9,10,11] ?_;refine X0 ?_;refine A2 [0,5,9,10,11] ?_
  refine Au (x+1) hlt (by omega) (Bk ?_)
  rw [Iu hlt,Bn]
  rfl
 have hxe:m.take.length≤x:=by simpa using ht12
 refine Z17 ?_;refine ip ?_;exact A9 (Aj A8) ⟨by unfold Ip;rw [Cu hxe]<;>rfl,rfl⟩ (hlow:=Dq)

theorem AP5 (c:List Col) (hc:OkCols c) (m:Mov) (h:MvOk m) (Hp:List AObj):AFun Tryz.prog 128 [Ai c,G5 m] Hp (.tup [Ai (Ba c m).1,A4 (Ba c m).2]):=by
 refine Ah [.tmp 4,.tmp 5] [0,1] Tryz.func128 Tryz.ntmps128 (fun d=>?_)
 refine Z16 ?_;refine Mn ?_;refine Z1 ?_;refine Aa Tryz.call164 (AP3 c hc m h _) ?_;refine A5 ?_;refine A2 [0,3,6] ?_;refine Ef ?_
 have hg:=Y8 (c:=c) h.ok
 have hg2:(Bf c m).length≤1000000:=by rw [It];exact h.ok.gives2
 refine Z75 ?_;refine Aa Tryz.call165 (AOy c hc m.take h.ok.takes (Bf c m) hg hg2 _) ?_;refine Z82 ?_;refine A2 [0,3,6,7,8] ?_;refine Z7 ?_;refine A2 [0,3,6,7,8,23] ?_
 refine A3 (fun ht23=>?_) (fun ht23=>?_)
 ·have hm:=t8 ht23
  exact zk
 refine Z4 ?_;refine Z46 ?_;refine Aa Tryz.call166 (AMc m.ahead h.ok.ahead (Bf c m) (by rw [It,h.ahead]) c hc _) ?_;refine A5 ?_;refine A2 [0,3,7,9] ?_;refine Z1 ?_;refine A2 [0,3,7,9,31] ?_
 refine A3 (fun ht31=>?_) (fun ht31=>?_)
 ·have hm:=tc ht23 ht31
  exact zk
 refine Z4 ?_;refine Lq ?_;refine Er [0,1,0,0,12,0,63,127] 6 Ap (by kernel_rfl) ?_;refine Rb ?_;refine I3 Tryz.call167 (AP4 c hc m h.ok (Ya ht23) _) ?_;refine vj ?_;refine Aa Tryz.call166 (AMc m.back h.ok.back (Ip c m) (by rw [Ip,Ag,h.back]) (D9 c m.take (Bf c m)).1 (Y9 hc hg hg2) _) ?_;refine A5 ?_;refine A2 [7,10] ?_;refine Z1 ?_;refine A2 [7,10,41] ?_
 refine A3 (fun ht41=>?_) (fun ht41=>?_)
 ·have hm:=td ht23 ht31 ht41
  exact zk
 have hm:=tg ht23 ht31 ht41
 refine Rc ?_;exact AGv

theorem c38 (c:List Col) (hc:OkCols c) (m:Mov) (h:MvOk m) (Hp:List AObj):AFun Tryz.prog 38 [Ai c,G5 m] Hp (.tup [Ai (Ba c m).1,A4 (Ba c m).2]):=by
 refine Ah [.tmp 4,.tmp 5] [0,1] Tryz.func38 Tryz.ntmps38 (fun d=>?_)
 refine Z16 ?_;refine Mn ?_;refine Z1 ?_;refine Aa Tryz.call84 (c84 c hc m h _) ?_;refine A5 ?_;refine A2 [0,3,6] ?_;refine Ef ?_
 have hg:=Y8 (c:=c) h.ok
 have hg2:(Bf c m).length≤1000000:=by rw [It];exact h.ok.gives2
 have hgl:=It c m
 have hah:=h.ahead
 have hbk:=h.back
 have htk:=h.ok.takes
 refine Z75 ?_;refine Aa Tryz.call85 (c85 c hc m.take h.ok.takes (Bf c m) hg hg2 _) ?_;refine Z82 ?_;refine A2 [0,3,6,7,8] ?_;refine Z7 ?_;refine A2 [0,3,6,7,8,25] ?_
 refine A3 (fun ht25=>?_) (fun ht25=>?_)
 ·have hm:=t8 ht25
  exact zk
 have hfd:=Ya ht25
 refine Mw ?_;refine A2 [0,3,6,7,9] ?_
 refine Bg (α:=Nat) (fun x=>⟨77,A6 0 (Ai c) (A6 3 (.ro (Io m)) (A6 6 (Ai (Bf c m)) (A6 7 (Ai (D9 c m.take (Bf c m)).1) (A6 9 (A4 (x:Nat)) (fun _=>.any))))),Hp,[],[],none⟩) (fun x=>x≤(Bf c m).length∧Dp c m.ahead (Bf c m)=Dp c (m.ahead.drop x) ((Bf c m).drop x)) (fun x=>(Bf c m).length-x) (0) ⟨Ao _,rfl⟩ (B4 (by simp)) rfl (fun x hx=>?_)
 refine Z46 ?_;refine A2 [0,3,6,7,9,30] ?_
 refine A3 (fun ht30=>?_) (fun ht30=>?_)
 ·have hlt:x<(Bf c m).length:=by simpa using ht30
  have hla:x<m.ahead.length:=by omega
  have hst:=Uj (over:=c) hla hlt
  refine Z35 ?_;refine Er [0,1,0,7,15,0,0,96,224,480,0,2047,4095] 11 Ap (by kernel_rfl) ?_;refine Z37 ?_
  refine Av (h:=Ad (x) (A7 m.ahead[x]) (fun _=>Ar hla)) (hr:=?_)
  refine Z37 ?_
  refine Av (h:=Ad (x) (Bl (Bf c m)[x]) (fun _=>Ar hlt)) (hr:=?_)
  refine Z37 ?_;refine Hf ?_;refine Aa Tryz.call43 (c43 61 m.ahead[x] (h.ok.ahead.ok _ (As hla)) (by decide) (h.ok.ahead.size _ (As hla)) (Bf c m)[x].kind c hc _) ?_;refine A5 ?_;refine A2 [0,3,6,7,9,10] ?_;refine Z1 ?_;refine A2 [0,3,6,7,9,10,46] ?_
  refine A3 (fun ht46=>?_) (fun ht46=>?_)
  ·have hf1:Dp c m.ahead (Bf c m)=Pm m.ahead[x] c (Bf c m)[x].kind:=by rw [hx.2,hst,if_pos ht46]
   have hm:=tc ht25 (by rw [hf1];exact ht46)
   rw [hf1] at hm
   refine Z1 ?_;refine AGq ?_;refine Z50 ?_;exact ACw
  have hnx:Dp c m.ahead (Bf c m)=Dp c (m.ahead.drop (x+1)) ((Bf c m).drop (x+1)):=by rw [hx.2,hst,if_neg (by rw [ht46];simp)]
  refine Z68 ?_;refine A2 [0,3,6,7,9] ?_;exact Au (x+1) ⟨hlt,hnx⟩ (by omega) (Bk rfl)
 have hxe:(Bf c m).length≤x:=by simpa using ht30
 have hf1:Dp c m.ahead (Bf c m)=0:=by rw [hx.2,Yb (by omega)]
 refine ix ?_;refine A2 [0,3,7,11] ?_
 refine Bg (α:=Nat) (fun k=>⟨77,A6 0 (Ai c) (A6 3 (.ro (Io m)) (A6 7 (Ai (D9 c m.take (Bf c m)).1) (A6 11 (A4 (k:Nat)) (fun _=>.any)))),Hp,[],[],none⟩) (fun k=>k≤m.take.length∧Dp (D9 c m.take (Bf c m)).1 m.back (Ip c m)=Dp (D9 c m.take (Bf c m)).1 (m.back.drop k) ((Ip c m).drop k)) (fun k=>m.take.length-k) (0) ⟨Ao _,rfl⟩ (B4 (by simp)) rfl (fun k hk=>?_)
 refine Z99 ?_;refine A2 [0,3,7,11,52] ?_
 refine A3 (fun ht52=>?_) (fun ht52=>?_)
 ·have hkt:k<m.take.length:=by simpa using ht52
  have hkb:k<m.back.length:=by omega
  have hfx:=hfd _ (As hkt)
  obtain ⟨jj,hjj,hjc⟩:=Fl hfx
  have hkc:k<(Ip c m).length:=by rw [Ip,Ag];exact hkt
  have htc:(Ip c m)[k]=c.getD (At m.take[k] c).toNat ⟨[],0⟩:=by simp only [Ip,Oo]
  have hst:=Uj (over:=(D9 c m.take (Bf c m)).1) hkb hkc
  rw [htc] at hst
  refine Z35 ?_;refine Er [0,1,0,7,15,0,0,0,128,0,896,1920,4032,8160,16352,32736,0,131071,262143] 17 Ap (by kernel_rfl) ?_;refine Z37 ?_
  refine Av (h:=Ad (k) (A7 m.back[k]) (fun _=>Ar hkb)) (hr:=?_)
  refine Rb ?_;refine Z10 ?_
  refine Av (h:=Ad (k) (Ab m.take[k]) (fun _=>Ar hkt)) (hr:=?_)
  refine Av ?_;refine I3 Tryz.call41 (c41 c hc m.take[k] _) ?_
  refine Av (h:=Ad ((At m.take[k] c).toNat) (Bl (c.getD (At m.take[k] c).toNat ⟨[],0⟩)) (fun _=>W6 hfx)) (hr:=?_)
  refine Z37 ?_;refine Hf ?_;refine Aa Tryz.call43 (c43 61 m.back[k] (h.ok.back.ok _ (As hkb)) (by decide) (h.ok.back.size _ (As hkb)) (c.getD (At m.take[k] c).toNat ⟨[],0⟩).kind (D9 c m.take (Bf c m)).1 (Y9 hc hg hg2) _) ?_;refine A5 ?_;refine A2 [0,3,7,11,12] ?_;refine Z1 ?_;refine A2 [0,3,7,11,12,74] ?_
  refine A3 (fun ht74=>?_) (fun ht74=>?_)
  ·have hf2:=hk.2.trans hst
   rw [if_pos ht74] at hf2
   have hm:=td ht25 (by rw [hf1];rfl) (by rw [hf2];exact ht74)
   rw [hf2] at hm
   refine Z1 ?_;refine AGq ?_;refine Z50 ?_;exact ACw
  have hnx:=hk.2.trans hst
  rw [if_neg (by rw [ht74];simp)] at hnx
  refine Z68 ?_;refine A2 [0,3,7,11] ?_;exact Au (k+1) ⟨hkt,hnx⟩ (by omega) (Bk rfl)
 have hke:m.take.length≤k:=by simpa using ht52
 have hm:=tg ht25 (by rw [hf1];rfl) (by rw [hk.2,Yb (by omega)];rfl)
 refine Z36 ?_;refine Z16 ?_;exact AGv

def Qu {α:Type} (p:α→Bool) (l:List α):Int:=if l.any p then (l.findIdx p:Int) else -1
theorem ABm {α:Type} {p:α→Bool} {l:List α} {i:Nat} (h:i<l.length) (hn:p l[i]=true) (hp:∀(j:Nat) (y:α),j<i→l[j]? = some y→p y=false):(i:Int)=Qu p l:=by
 unfold Qu
 rw [if_pos (E7.2 ⟨_,As h,hn⟩)]
 congr 1
 refine (mi h |>.2 ⟨hn,fun j hj=>?_⟩).symm
 exact hp j (l[j]'(by omega)) hj (Ac (by omega))
theorem qe {α:Type} {p:α→Bool} {l:List α} (h:l.any p=false):(-1:Int)=Qu p l:=by
 unfold Qu
 rw [if_neg (by rw [h];simp)]
theorem wv {α:Type} (p:α→Bool) (l:List α):decide (0≤Qu p l)=l.any p:=by
 unfold Qu
 cases l.any p<;>simp
def Po (s:Str):Bool := !(Cc s)
def Fy (e:Expr):Bool := !(Bc e)
theorem l5 {m:Mov} (h:(((m.ahead.length:Int) != (m.give.length:Int)) || ((m.back.length:Int) != (m.take.length:Int)))=true):Fk m=false:=if_pos h
theorem l6 {m:Mov} (h:(((m.ahead.length:Int) != (m.give.length:Int)) || ((m.back.length:Int) != (m.take.length:Int)))=false):Fk m=if m.kind==1 then ((m.take.length:Int)==0)&&((m.give.length:Int)==1)
 else if m.kind==2 then ((m.take.length:Int)==1)&&((m.give.length:Int)==0)
 else if (m.kind==3) || (m.kind==6) then ((m.take.length:Int)==1)&&((m.give.length:Int)==1)
 else if m.kind==4 then ((m.take.length:Int)==1)&&decide ((1:Int)<(m.give.length:Int))
 else if m.kind==5 then decide ((1:Int)<(m.take.length:Int))&&((m.give.length:Int)==1)
 else false:=if_neg (by rw [h];simp)
theorem AP6 (m:Mov) (Hp:List AObj):AFun Tryz.prog 206 [G5 m] Hp (B0 (Fk m)):=by
 refine Ah [.tmp 2] [0] Tryz.func206 Tryz.ntmps206 (fun d=>?_)
 refine Z66 ?_;refine Er [0,1,3,0,8,24,7,127] 7 Ap (by kernel_rfl) ?_;refine Rb ?_;refine Z37 ?_;refine ee ?_;refine eo ?_;refine Z53 ?_
 simp only [Ag]
 refine Z75 ?_;refine Z52 ?_;refine Z80 ?_;refine A2 [1,3,4,22] ?_
 refine A3 (fun ht22=>?_) (fun ht22=>?_)
 ·simp only [Ag] at ht22
  have hm:=l5 ht22
  exact AD5
 simp only [Ag] at ht22
 have hn:=l6 ht22
 refine j5 ?_;refine A2 [3,4,24] ?_;refine Wy ?_;refine A2 [3,4,24,25] ?_
 refine A3 (fun ht25=>?_) (fun ht25=>?_)
 ·refine Zj ?_;refine ni ?_;exact A9 (Aj A8) ⟨by rw [hn];first|(simp only [ht22,ht25,hk3,hk6,Db,Ce,Fo,Ks,if_true,if_false,Ay,↓reduceIte]<;>rfl)|(simp only [ht22,ht25,hk3,Db,Ce,Fo,if_true,if_false,Ay,↓reduceIte]<;>rfl)|(simp only [ht22,ht25,if_true,if_false,Ay,↓reduceIte]<;>rfl),rfl⟩
 refine Z1 ?_;refine A2 [3,4,24,33] ?_
 refine A3 (fun ht33=>?_) (fun ht33=>?_)
 ·refine Zj ?_;refine ni ?_;exact A9 (Aj A8) ⟨by rw [hn];first|(simp only [ht22,ht25,ht33,hk3,hk6,Db,Ce,Fo,Ks,if_true,if_false,Ay,↓reduceIte]<;>rfl)|(simp only [ht22,ht25,ht33,hk3,Db,Ce,Fo,if_true,if_false,Ay,↓reduceIte]<;>rfl)|(simp only [ht22,ht25,ht33,if_true,if_false,Ay,↓reduceIte]<;>rfl),rfl⟩
 refine Z7 ?_;refine A2 [3,4,24,41] ?_
 refine A3 (fun ht41=>?_) (fun ht41=>?_)
 ·have hk3:=ht41
  refine Z4 ?_
  refine A3 (fun ht41=>?_) (fun ht41=>?_)
  ·refine Zj ?_;refine Z43 ?_;exact Z56
  rw [hk3] at ht41;cases ht41
 have hk3:=ht41
 refine Z45 ?_;refine A2 [3,4,24,41] ?_;refine Gf ?_
 refine A3 (fun ht41=>?_) (fun ht41=>?_)
 ·have hk6:=ht41
  refine Zj ?_;refine Z43 ?_;exact Z56
 have hk6:=ht41
 refine Z1 ?_;refine A2 [3,4,24,50] ?_
 refine A3 (fun ht50=>?_) (fun ht50=>?_)
 ·refine Zj ?_;refine ni ?_;exact A9 (Aj A8) ⟨by rw [hn];first|(simp only [ht22,ht25,ht33,ht41,ht41,ht50,hk3,hk6,Db,Ce,Fo,Ks,if_true,if_false,Ay,↓reduceIte]<;>rfl)|(simp only [ht22,ht25,ht33,ht41,ht41,ht50,hk3,Db,Ce,Fo,if_true,if_false,Ay,↓reduceIte]<;>rfl)|(simp only [ht22,ht25,ht33,ht41,ht41,ht50,if_true,if_false,Ay,↓reduceIte]<;>rfl),rfl⟩
 refine Z1 ?_;refine A2 [3,4,58] ?_
 refine A3 (fun ht58=>?_) (fun ht58=>?_)
 ·refine Zj ?_;refine ni ?_;exact AL9
 refine Z47 ?_;refine Z18 ?_;exact AL9

theorem AP7 (s:Str) (hs:s.length≤1048576) (Hp:List AObj):AFun Tryz.prog 208 [Ab s] Hp (B0 (Po s)):=by
 refine Ah [.tmp 2] [0] Tryz.func208 Tryz.ntmps208 (fun d=>?_)
 refine Z44 ?_;refine Z2 ?_;exact AKu

theorem AP8 (e:Expr) (hok:okE 61 e) (Hp:List AObj):AFun Tryz.prog 207 [A7 e] Hp (B0 (Fy e)):=by
 refine Ah [.tmp 2] [0] Tryz.func207 Tryz.ntmps207 (fun d=>?_)
 refine nq ?_;exact AKi

theorem AP9 (e:Expr) (hok:okE 61 e) (Hp:List AObj):AFun Tryz.prog 160 [A7 e] Hp (B0 (Fy e)):=by
 refine Ah [.tmp 2] [0] Tryz.func160 Tryz.ntmps160 (fun d=>?_)
 refine nq ?_;exact AKi

theorem APa (l:List Str) (hl:l.length≤1048576) (hn:∀s∈l,s.length≤1048576) (Hp:List AObj):AFun Tryz.prog 106 [E4 l,.fn (.func 208) [] []] Hp (A4 (Qu Po l)):=by
 refine Ah [.tmp 4] [0,1] Tryz.func106 Tryz.ntmps106 (fun d=>?_)
 refine iw ?_
 refine Bg (α:=Nat) (fun x=>⟨19,A6 0 (E4 l) (A6 1 (.fn (.func 208) [] []) (A6 7 (A4 l.length) (A6 8 (A4 (x:Nat)) (fun _=>.any)))),Hp,[],[],none⟩) (fun x=>x≤l.length∧∀(j:Nat) y,j<x→l[j]? = some y→Po y=false) (fun x=>l.length-x) (0) ⟨Ao _,fun j y h=>by omega⟩ (B4 (by simp)) rfl (fun x hx=>?_)
 refine ik ?_
 refine E2 (fun ht9=>?_) (fun ht9=>?_)
 ·have hlt:x<l.length:=by simpa using ht9
  refine iv ?_
  refine A5 (h:=Ad (x) (Ab l[x]) (fun _=>Ar hlt)) (hr:=?_)
  refine A5 ?_;refine P2 Tryz.call208 (AP7 l[x] (hn _ (As hlt)) _) ?_;refine j6 ?_
  refine A3 (fun ht16=>?_) (fun ht16=>?_)
  ·exact AD3
  exact AD6
 have hxe:l.length≤x:=by simpa using ht9
 exact AD9

theorem c58 (l:List Str) (hl:l.length≤1048576) (hn:∀s∈l,s.length≤1048576) (Hp:List AObj):AFun Tryz.prog 58 [E4 l,.fn (.func 208) [] []] Hp (B0 (l.any Po)):=by
 refine Ah [.tmp 4] [0,1] Tryz.func58 Tryz.ntmps58 (fun d=>?_)
 refine j4 ?_;refine Aa Tryz.call106 (APa l hl hn _) ?_;exact ADe

theorem AMd (l:List Expr) (hl:l.length≤1048576) (hn:∀e∈l,okE 61 e) (Hp:List AObj):AFun Tryz.prog 98 [Bd l,.fn (.func 207) [] []] Hp (A4 (Qu Fy l)):=by
 refine Ah [.tmp 4] [0,1] Tryz.func98 Tryz.ntmps98 (fun d=>?_)
 refine iw ?_
 refine Bg (α:=Nat) (fun x=>⟨19,A6 0 (Bd l) (A6 1 (.fn (.func 207) [] []) (A6 7 (A4 l.length) (A6 8 (A4 (x:Nat)) (fun _=>.any)))),Hp,[],[],none⟩) (fun x=>x≤l.length∧∀(j:Nat) y,j<x→l[j]? = some y→Fy y=false) (fun x=>l.length-x) (0) ⟨Ao _,fun j y h=>by omega⟩ (B4 (by simp)) rfl (fun x hx=>?_)
 refine ik ?_
 refine E2 (fun ht9=>?_) (fun ht9=>?_)
 ·have hlt:x<l.length:=by simpa using ht9
  refine iv ?_
  refine A5 (h:=Ad (x) (A7 l[x]) (fun _=>Ar hlt)) (hr:=?_)
  refine A5 ?_;refine P2 Tryz.call207 (AP8 l[x] (hn _ (As hlt)) _) ?_;refine j6 ?_
  refine A3 (fun ht16=>?_) (fun ht16=>?_)
  ·exact AD3
  exact AD6
 have hxe:l.length≤x:=by simpa using ht9
 exact AD9

theorem AG6 (l:List Expr) (hl:l.length≤1048576) (hn:∀e∈l,okE 61 e) (Hp:List AObj):AFun Tryz.prog 51 [Bd l,.fn (.func 207) [] []] Hp (B0 (l.any Fy)):=by
 refine Ah [.tmp 4] [0,1] Tryz.func51 Tryz.ntmps51 (fun d=>?_)
 refine j4 ?_;refine Aa Tryz.call98 (AMd l hl hn _) ?_;exact ADe

theorem AMe (l:List Expr) (hl:l.length≤1048576) (hn:∀e∈l,okE 61 e) (Hp:List AObj):AFun Tryz.prog 98 [Bd l,.fn (.func 160) [] []] Hp (A4 (Qu Fy l)):=by
 refine Ah [.tmp 4] [0,1] Tryz.func98 Tryz.ntmps98 (fun d=>?_)
 refine iw ?_
 refine Bg (α:=Nat) (fun x=>⟨19,A6 0 (Bd l) (A6 1 (.fn (.func 160) [] []) (A6 7 (A4 l.length) (A6 8 (A4 (x:Nat)) (fun _=>.any)))),Hp,[],[],none⟩) (fun x=>x≤l.length∧∀(j:Nat) y,j<x→l[j]? = some y→Fy y=false) (fun x=>l.length-x) (0) ⟨Ao _,fun j y h=>by omega⟩ (B4 (by simp)) rfl (fun x hx=>?_)
 refine ik ?_
 refine E2 (fun ht9=>?_) (fun ht9=>?_)
 ·have hlt:x<l.length:=by simpa using ht9
  refine iv ?_
  refine A5 (h:=Ad (x) (A7 l[x]) (fun _=>Ar hlt)) (hr:=?_)
  refine A5 ?_;refine P2 Tryz.call160 (AP9 l[x] (hn _ (As hlt)) _) ?_;refine j6 ?_
  refine A3 (fun ht16=>?_) (fun ht16=>?_)
  ·exact AD3
  exact AD6
 have hxe:l.length≤x:=by simpa using ht9
 exact AD9

theorem AMf (l:List Expr) (hl:l.length≤1048576) (hn:∀e∈l,okE 61 e) (Hp:List AObj):AFun Tryz.prog 51 [Bd l,.fn (.func 160) [] []] Hp (B0 (l.any Fy)):=by
 refine Ah [.tmp 4] [0,1] Tryz.func51 Tryz.ntmps51 (fun d=>?_)
 refine j4 ?_;refine Aa Tryz.call98 (AMe l hl hn _) ?_;exact ADe

theorem AEi (s:Str) (Hp:List AObj):AFun Tryz.prog 209 [Ab s] Hp (A7 (Bo s)):=by
 refine Ah [.cell 2 27] [0] Tryz.func209 Tryz.ntmps209 (fun d=>?_)
 refine Z69 ?_;refine Z2 ?_;refine Z22 ?_;refine Fx 0 5 6 ?_;refine Z3 ?_;exact A9 (Aj (B5 jA jS)) ⟨by rw [Al];rfl,rfl⟩

theorem APb (l:List Expr) (hl:l.length≤1048576) (hn:∀e∈l,okE 61 e) (Hp:List AObj):AFun Tryz.prog 123 [Bd l] Hp (B0 (l.any Fy)):=by
 refine Ah [.tmp 2] [0] Tryz.func123 Tryz.ntmps123 (fun d=>?_)
 refine Z44 ?_;refine Z2 ?_;refine Aa Tryz.call51 (AMf l hl hn _) ?_;exact AD7

theorem l7 {m:Mov} {c:Col}:(((!(Cc c.name)) || (!((C8 c.kind==[])==(m.kind==3)))) || ((m.kind==3)&&(c.kind != 0))) = !K2 m c:=by
 unfold K2
 cases Cc c.name<;>cases (C8 c.kind==([]:Str))<;>cases (m.kind==3)<;>cases (c.kind != 0)<;>rfl
theorem AIb {m:Mov} (h:(!(Fk m))=true):Fs m=false:=by
 have:Fk m=false:=by simpa using h
 unfold Fs;rw [this];rfl
theorem AIc {m:Mov} {c:Col} (hc:c∈m.give) (h:K2 m c=false):Fs m=false:=by
 have:m.give.all (K2 m)=false:=Qx.2 ⟨c,hc,by rw [h];simp⟩
 unfold Fs;rw [this];simp
theorem AId {m:Mov} (h:((m.take.any Po || m.ahead.any Fy) || m.back.any Fy)=true):Fs m=false:=by
 unfold Fs
 rw [show Po=fun s => !(Cc s) from rfl,show Fy=fun e => !(Bc e) from rfl,If,If,If] at h
 cases h1:m.take.all Cc<;>cases h2:m.ahead.all Bc<;>cases h3:m.back.all Bc<;>simp_all
theorem AEj {m:Mov} (h1:Fk m=true) (h2:m.give.all (K2 m)=true) (h:((m.take.any Po || m.ahead.any Fy) || m.back.any Fy)=false):Fs m=Lx m:=by
 unfold Fs
 rw [show Po=fun s => !(Cc s) from rfl,show Fy=fun e => !(Bc e) from rfl,If,If,If] at h
 rw [h1,h2]
 cases h1:m.take.all Cc<;>cases h2:m.ahead.all Bc<;>cases h3:m.back.all Bc<;>simp_all
theorem Od {α β:Type} {f:α→β} {l:List α} {d:α} (h:0<l.length):(l.map f)[0]? = some (f (l.getD 0 d)):=by
 rw [Ch,Ac h,Cq,Ac h]
 rfl
theorem N6 {α:Type} {l:List α} {d:α} (h:0<l.length):l.getD 0 d∈l:=by
 rw [Cq,Ac h]
 exact As h
theorem ABn {m:Mov} (h:(m.kind==3)=true):Lx m=(eqE (m.ahead.getD 0 Aw) (Bo (m.take.getD 0 []))&&eqE (m.back.getD 0 Aw) (Bo (m.give.getD 0 ⟨[],0⟩).name)):=if_pos h
theorem ABo {m:Mov} (h:(m.kind==3)=false) (h6:(m.kind==6)=true):Lx m=(m.take.getD 0 []==(m.give.getD 0 ⟨[],0⟩).name):=by unfold Lx;rw [if_neg (by rw [h];simp),if_pos h6]
theorem ABp {m:Mov} (h:(m.kind==3)=false) (h6:(m.kind==6)=false):Lx m=true:=by unfold Lx;rw [if_neg (by rw [h];simp),if_neg (by rw [h6];simp)]
theorem APc (m:Mov) (h:OkMov m) (Hp:List AObj):AFun Tryz.prog 163 [G5 m] Hp (B0 (Fs m)):=by
 refine Ah [.tmp 2] [0] Tryz.func163 Tryz.ntmps163 (fun d=>?_)
 refine Z66 ?_;refine Z25 ?_;refine Aa Tryz.call206 (AP6 m _) ?_;refine A5 ?_;refine A2 [1,8] ?_
 refine A3 (fun ht8=>?_) (fun ht8=>?_)
 ·have hm:=AIb ht8
  exact zl
 have hct:Fk m=true:=by simpa using ht8
 refine Z4 ?_;refine Z46 ?_;refine A2 [1,10,11,12] ?_
 refine Bg (α:=Nat) (fun x=>⟨95,A6 1 (.ro (Io m)) (A6 10 (Ai m.give) (A6 11 (A4 (m.give.length:Nat)) (A6 12 (A4 (x:Nat)) (fun _=>.any)))),Hp,[],[],none⟩) (fun x=>x≤m.give.length∧∀(j:Nat) (y:Col),j<x→m.give[j]? = some y→(!K2 m y)=false) (fun x=>m.give.length-x) (0) ⟨Ao _,fun j y h=>by omega⟩ (B4 (by simp)) rfl (fun x hx=>?_)
 refine Z2 ?_;refine A2 [1,10,11,12,13] ?_
 refine E2 (fun ht13=>?_) (fun ht13=>?_)
 ·have hlt:x<m.give.length:=by simpa using ht13
  have hgl:=h.gives2
  refine Tt ?_
  refine A5 (h:=Ad (x) (Bl m.give[x]) (fun _=>Ar hlt)) (hr:=?_)
  refine Si ?_;refine A2 [1,4,10,11,12] ?_;refine Er [0,1,3,7,15,31,63,127,255,31,543,1567,4095,8191,16383,32767,65535,131071,262143,524287,1048575,2097151,4194303,8388607] 12 Ap (by kernel_rfl) ?_;refine Z10 ?_;refine I3 Tryz.call105 (AAa m.give[x].name (h.gives.2 _ (As hlt)) _) ?_;refine Z10 ?_;refine Z85 ?_;refine H.call Tryz.call97 (fun hB=>c97 m.give[x].kind _) ?_;refine Z85 ?_;refine Z85 ?_;refine zr ?_;refine Z52 ?_;refine Qg ?_;refine A5 ?_;refine A2 [1,10,11,12,39] ?_
  refine A3 (fun ht39=>?_) (fun ht39=>?_)
  ·rw [l7] at ht39
   have hm:=AIc (As hlt) (by simpa using ht39)
   refine Z18 ?_;exact ACx
  rw [l7] at ht39
  refine Ra ?_;refine A2 [1,10,11,12] ?_;refine Au (x+1) ⟨hlt,Bw hlt hx.2 ht39⟩ (by omega) ?_
  exact Di (own:=[]) (fun _=>.refl _) (by repeat (first|exact Bt|refine Bs (by first|(simp [or_imp,forall_and];done)|exact Dq|exact low_ro.2 Qb) ?_)) (by simp) (by simp)
 have hxe:m.give.length≤x:=by simpa using ht13
 have hga:m.give.all (K2 m)=true:=by have:=Ia hxe hx.2;rw [If] at this;simpa using this
 refine Wz ?_;refine A2 [1,5] ?_;refine Z7 ?_;refine Aa Tryz.call58 (c58 m.take h.takes h.names _) ?_;refine A5 ?_;refine Tu ?_;refine Bm Tryz.call51 (fun hB=>AG6 m.ahead h.ahead.len h.ahead.ok _) ?_;refine Z67 ?_;refine Bm Tryz.call51 (fun hB=>AG6 m.back h.back.len h.back.ok _) ?_;refine A5 ?_;refine A2 [1,55] ?_
 refine A3 (fun ht55=>?_) (fun ht55=>?_)
 ·have hm:=AId ht55
  exact zl
 have hm0:=AEj hct hga ht55
 refine j5 ?_;refine A2 [1,57] ?_;refine Wy ?_;refine A2 [1,57,58] ?_
 refine A3 (fun ht58=>?_) (fun ht58=>?_)
 ·obtain ⟨hl1,hl2⟩:=Pn hct (by rw [ht58];simp)
  obtain ⟨hl3,hl4⟩:=Gm hct
  have g1:=Od (f:=A7) (l:=m.ahead) (d:=Aw) (by omega)
  have g2:=Od (f:=A7) (l:=m.back) (d:=Aw) (by omega)
  have g3:=Od (f:=Ab) (l:=m.take) (d:=[]) (by omega)
  have g4:=Od (f:=Bl) (l:=m.give) (d:=⟨[],0⟩) (by omega)
  have ok1:=h.ahead.ok _ (N6 (l:=m.ahead) (d:=Aw) (by omega))
  have ok2:=h.back.ok _ (N6 (l:=m.back) (d:=Aw) (by omega))
  have hm:=hm0.trans (ABn ht58)
  refine Er [0,1,3,7,0,16,48,112,240,511,1023,2047,4095,8191,16383,2047,34815,100351,231423,493567,1017855,2097151,4194303,8388607] 21 Ap (by kernel_rfl) ?_;refine Z10 ?_
  refine Av (h:=Ad (0) (A7 (m.ahead.getD 0 Aw)) (fun _=>g1)) (hr:=?_)
  refine Z37 ?_
  refine Av (h:=Ad (0) (Ab (m.take.getD 0 [])) (fun _=>g3)) (hr:=?_)
  refine Av ?_;refine I3 Tryz.call209 (AEi (m.take.getD 0 []) _) ?_;refine I3 Tryz.call109 (AI5 61 (m.ahead.getD 0 Aw) ok1 (Bo (m.take.getD 0 [])) _) ?_;refine Av ?_;refine Z85 ?_
  refine H.go (h:=Ad (0) (A7 (m.back.getD 0 Aw)) (fun _=>g2)) (hr:=?_)
  refine iu ?_
  refine H.go (h:=Ad (0) (Bl (m.give.getD 0 ⟨[],0⟩)) (fun _=>g4)) (hr:=?_)
  refine Z85 ?_;refine H.call Tryz.call209 (fun hB=>AEi (m.give.getD 0 ⟨[],0⟩).name _) ?_;refine Hf ?_;refine Bm Tryz.call109 (fun hB=>AI5 61 (m.back.getD 0 Aw) ok2 (Bo (m.give.getD 0 ⟨[],0⟩).name) _) ?_;exact AK9
 refine Z1 ?_;refine A2 [1,83] ?_
 refine A3 (fun ht83=>?_) (fun ht83=>?_)
 ·obtain ⟨hl1,hl2⟩:=Pn hct (by rw [ht83];simp)
  obtain ⟨hl3,hl4⟩:=Gm hct
  have g1:=Od (f:=A7) (l:=m.ahead) (d:=Aw) (by omega)
  have g2:=Od (f:=A7) (l:=m.back) (d:=Aw) (by omega)
  have g3:=Od (f:=Ab) (l:=m.take) (d:=[]) (by omega)
  have g4:=Od (f:=Bl) (l:=m.give) (d:=⟨[],0⟩) (by omega)
  have ok1:=h.ahead.ok _ (N6 (l:=m.ahead) (d:=Aw) (by omega))
  have ok2:=h.back.ok _ (N6 (l:=m.back) (d:=Aw) (by omega))
  have hm:=hm0.trans (ABo ht58 ht83)
  refine AKe ?_
  refine Av (h:=Ad (0) (Ab (m.take.getD 0 [])) (fun _=>g3)) (hr:=?_)
  refine Z37 ?_
  refine Av (h:=Ad (0) (Bl (m.give.getD 0 ⟨[],0⟩)) (fun _=>g4)) (hr:=?_)
  refine Z10 ?_;refine Hf ?_;exact AK9
 have hm:=hm0.trans (ABp ht58 ht83)
 refine Z47 ?_;refine Z18 ?_;exact nv

def ww (m:Mov):Bool := !(Fs m)
theorem AEk (l:List Mov):(decide ((l.length:Int)≤8) && !(l.any ww))=Oi l:=by
 unfold Oi
 rw [show ww=fun m => !(Fs m) from rfl,If]
 simp
theorem APd (m:Mov) (h:OkMov m) (Hp:List AObj):AFun Tryz.prog 162 [G5 m] Hp (B0 (ww m)):=by
 refine Ah [.tmp 2] [0] Tryz.func162 Tryz.ntmps162 (fun d=>?_)
 refine nq ?_;refine Aa Tryz.call163 (APc m h _) ?_;exact Z91

theorem APe (l:List Mov) (h:OkMovs l) (Hp:List AObj):AFun Tryz.prog 205 [Dm l,.fn (.func 162) [] []] Hp (A4 (Qu ww l)):=by
 refine Ah [.tmp 4] [0,1] Tryz.func205 Tryz.ntmps205 (fun d=>?_)
 refine iw ?_
 refine Bg (α:=Nat) (fun x=>⟨19,A6 0 (Dm l) (A6 1 (.fn (.func 162) [] []) (A6 7 (A4 l.length) (A6 8 (A4 (x:Nat)) (fun _=>.any)))),Hp,[],[],none⟩) (fun x=>x≤l.length∧∀(j:Nat) (y:Mov),j<x→l[j]? = some y→ww y=false) (fun x=>l.length-x) (0) ⟨Ao _,fun j y h=>by omega⟩ (B4 (by simp)) rfl (fun x hx=>?_)
 refine ik ?_
 refine E2 (fun ht9=>?_) (fun ht9=>?_)
 ·have hlt:x<l.length:=by simpa using ht9
  have hlen:=h.len
  refine iv ?_
  refine A5 (h:=Ad (x) (G5 l[x]) (fun _=>Ar hlt)) (hr:=?_)
  refine A5 ?_;refine P2 Tryz.call162 (APd l[x] (h.each _ (As hlt)) _) ?_;refine j6 ?_
  refine A3 (fun ht16=>?_) (fun ht16=>?_)
  ·exact AD3
  exact AD6
 have hxe:l.length≤x:=by simpa using ht9
 exact AD9

theorem APf (l:List Mov) (h:OkMovs l) (Hp:List AObj):AFun Tryz.prog 161 [Dm l,.fn (.func 162) [] []] Hp (B0 (l.any ww)):=by
 refine Ah [.tmp 4] [0,1] Tryz.func161 Tryz.ntmps161 (fun d=>?_)
 refine j4 ?_;refine Aa Tryz.call205 (APe l h _) ?_;exact ADe

theorem APg (l:List Mov) (h:OkMovs l) (Hp:List AObj):AFun Tryz.prog 126 [Dm l] Hp (B0 (Oi l)):=by
 refine Ah [.tmp 2] [0] Tryz.func126 Tryz.ntmps126 (fun d=>?_)
 refine Z44 ?_;refine Z34 ?_;refine B7 ?_;refine Bm Tryz.call161 (fun hB=>APf l h _) ?_;refine B7 ?_;refine Z43 ?_;exact A9 (Aj A8) ⟨by rw [←AEk,Ag],rfl⟩

theorem c79 (c:List Col) (hc:OkCols c) (l:List Mov) (h:OkMovs l) (Hp:List AObj):AFun Tryz.prog 79 [Ai c,Dm l] Hp (B0 (K3 c l)):=by
 refine Ah [.tmp 4] [0,1] Tryz.func79 Tryz.ntmps79 (fun d=>?_)
 refine Z48 ?_;refine Z2 ?_;refine Aa Tryz.call125 (ALx c hc _) ?_;refine nh ?_;refine Bm Tryz.call126 (fun hB=>APg l h _) ?_;refine Z0 ?_;refine Z20 ?_;exact A9 (Aj A8) ⟨by unfold K3;rw [J6],rfl⟩

theorem wx {Hp:List AObj} {c:List Col} (h:∀x∈Hp,ObjLow Hp.length x):∀x∈Hp++[AObj.cells 30 [Ai c]],ObjLow (Hp.length+1) x:=by
 intro x hx
 rcases Ds.1 hx with hx|hx
 ·exact Nv (by omega) (h x hx)
 rw [Bh.1 hx]
 intro z hz
 rw [Bh.1 hz]
 exact Dq
theorem c80 (c:List Col) (l:List Mov) (Hp:List AObj):ACallO Tryz.prog 80 [Ai c,Dm l] Hp (fun r H'=>r=.fn (.func 127) [] [.ro [Dm l],.ptr (oid Hp.length 0) 0]∧H'=Hp++[.cells 30 [Ai c]]):=by
 refine ACallO.body [.tmp 4] [0,1] Tryz.func80 Tryz.ntmps80 (fun d=>?_)
 refine nf ?_;refine Z0 ?_;refine Jt ?_;refine Ef ?_
 refine Mm (fun hlow=>?_)
 refine AJv ?_;refine Z20 ?_;exact K.finO 1 (A8 (t:=4)) ⟨rfl,rfl⟩ (hlow:=by simp [oid,or_imp,forall_and];exact ⟨fun m _ a _=>Am _ a,fun m _ a _=>Am _ a⟩) (hobj:=wx hlow)

theorem AMg (l oc:Nat) (ms:List Mov) (hm:∀m∈ms,MvOk m) (hml:ms.length≤1048576) (C:Nat→List Col) (hC:∀k,OkCols (C k)) (U T:Nat→List AObj) (N:Nat→Prop) (Z:List AObj→Prop) (hlen:∀k,(U k).length=(U 0).length) (hlenW:∀k,(T k).length=(U 0).length) (hll:l<(U 0).length) (hol:oc<(U 0).length)
  (hlw:∀k,∀x∈U k,ObjLow (U 0).length x) (hlW:∀k,∀x∈T k,ObjLow (U 0).length x) (h0:N 0) (hc:∀k,(U k)[oc]? = some (.cells 30 [Ai (C k)])) (hcW:∀k,(T k)[oc]? = some (.cells 30 [Ai (C k)]))
  (hn:∀k m,ms[k]? = some m→(Ba (C k) m).2=0→(T k).set oc (.cells 30 [Ai (Ba (C k) m).1])=U (k+1))
  (hy:∀k m X,ms[k]? = some m→N k→AYield Tryz.prog l [Ai (Ba (C k) m).1,A4 (Ba (C k) m).2] (U k++X) (fun b H'=>((Ba (C k) m).2≠0∧∃V,H'=V++X∧V.length=(U 0).length∧(∀x∈V,ObjLow (U 0).length x)∧Z V)∨((Ba (C k) m).2=0∧b=true∧N (k+1)∧H'=T k++X)))
  (hR:N ms.length→Z (U ms.length)):ACall Tryz.prog 127 [.yield l,.ro [Dm ms],.ptr oc 0] (U 0) (fun _ H'=>Z H'):=by
 refine Ah [] [0,1,2] Tryz.func127 Tryz.ntmps127 (fun d=>?_)
 refine Z16 ?_;refine A2 [0,2,8,9,10] ?_
 refine Bg (α:=Nat) (fun x=>⟨31,A6 0 (.yield l) (A6 2 (.ptr oc 0) (A6 8 (Dm ms) (A6 9 (A4 ms.length) (A6 10 (A4 (x:Nat)) (fun _=>.any))))),U x,[],[],none⟩) (fun x=>x≤ms.length∧N x) (fun x=>ms.length-x) (0) ⟨Ao _,h0⟩ (B4 (by simp)) rfl (fun x hx=>?_)
 refine Z2 ?_;refine A2 [0,2,8,9,10,11] ?_
 refine E2 (fun ht11=>?_) (fun ht11=>?_)
 ·have hlt:x<ms.length:=by simpa using ht11
  refine Tt ?_
  refine A5 (h:=Ad (x) (G5 ms[x]) (fun _=>Ar hlt)) (hr:=?_)
  refine Si ?_;refine A2 [0,2,5,8,9,10] ?_;refine Ef ?_
  refine A5 (h:=Bj (hc x)) (hr:=?_)
  refine A5 ?_;refine Aa Tryz.call128 (AP5 (C x) (hC x) ms[x] (hm _ (As hlt)) _) ?_;refine Z82 ?_;refine A2 [0,2,6,7,8,9,10] ?_;refine Z30 ?_
  refine R.yield (l:=l) (args:=[Ai (Ba (C x) ms[x]).1,A4 (Ba (C x) ms[x]).2]) (hy x ms[x] _ (Ac hlt) hx.2) ?_
  intro b V O hV hb
  have hVO:O=[AObj.cells 80 (Io ms[x])]∧(((Ba (C x) ms[x]).2≠0∧V.length=(U 0).length∧(∀y∈V,ObjLow (U 0).length y)∧Z V)∨((Ba (C x) ms[x]).2=0∧b=true∧N (x+1)∧V=T x)):=by
   rcases hb with ⟨h1,V',h2,h3,h4,h5⟩|⟨h1,h2,h3,h4⟩
   ·obtain ⟨rfl,rfl⟩:=Qy h2 (by rw [hV,hlen x,h3])
    exact ⟨rfl,.inl ⟨h1,h3,h4,h5⟩⟩
   have h6:=Qy h4 (by rw [hV,hlen x,hlenW x])
   exact ⟨h6.2,.inr ⟨h1,h2,h3,h6.1⟩⟩
  obtain ⟨rfl,hVO⟩:=hVO
  have hVl:V.length=(U 0).length:=by rw [hV,hlen x]
  have hVw:∀y∈V,ObjLow (U 0).length y:=by
   rcases hVO with ⟨_,_,h,_⟩|⟨_,_,_,rfl⟩
   ·exact h
   exact hlW _
  refine ⟨fun _=>by rw [hVl];exact hVw,fun o ho=>(by cases ho),?_⟩
  refine Z21 ?_;refine A5 ?_;refine A2 [0,2,6,8,9,10,28] ?_
  refine A3 (fun ht28=>?_) (fun ht28=>?_)
  ·have hZ:Z V:=by
    rcases hVO with ⟨_,_,_,h⟩|⟨h1,h2,_,_⟩
    ·exact h
    rw [h1,h2] at ht28;simp at ht28
   refine Z12 ?_;refine Z6 ?_;refine Lp ?_;exact A9 .nores (hp:=hZ)
  have hVn:(Ba (C x) ms[x]).2=0∧N (x+1)∧V=T x:=by
   rcases hVO with ⟨h1,_,_,_⟩|⟨h1,_,h3,h4⟩
   ·simp [h1] at ht28
   exact ⟨h1,h3,h4⟩
  obtain ⟨hz,hN,rfl⟩:=hVn
  have hnx:=hn x _ (Ac hlt) hz
  refine Z4 ?_;refine Z61 ?_
  refine De jS (hcW x) ?_ ?_
  ·first|exact Dq|(simp [or_imp,forall_and];done)
  refine A2 [0,2,8,9,10] ?_;refine X0 ?_;refine A2 [0,2,8,9,10] ?_;refine Au (x+1) ⟨hlt,hN⟩ (by omega) ?_
  rw [hnx]
  exact Di (own:=[]) (fun _=>.refl _) (by repeat (first|exact Bt|refine Bs (by first|(simp [or_imp,forall_and];done)|exact Kn|(have:=hlen (x+1);simp;omega)) ?_)) (by simp) (by simp)
 have hxe:x=ms.length:=by have:=hx.1;simp at ht11;omega
 refine K.lpE ?_;exact Eo .nores (hp:=by rw [hxe];exact hR (hxe ▸ hx.2))

/-! The columns on the way through moves. -/
def colsAt (c:List Col) (ms:List Mov):Nat→List Col
 | 0=>c
 | k+1=>match ms[k]? with|some m=>(Ba (colsAt c ms k) m).1|none=>colsAt c ms k
def C7 (c:List Col) (ms:List Mov):Nat→List (List Col)
 | 0=>[c]
 | k+1=>C7 c ms k++[colsAt c ms (k+1)]
def NS (c:List Col) (ms:List Mov) (k:Nat):Prop:=C2 c ms=((C7 c ms k).dropLast++(C2 (colsAt c ms k) (ms.drop k)).1,(C2 (colsAt c ms k) (ms.drop k)).2)
theorem g0 (c:List Col) (ms:List Mov) (k:Nat):(C7 c ms k).dropLast++[colsAt c ms k]=C7 c ms k:=by
 cases k with
 | zero=>rfl
 | succ k=>simp [C7]
theorem Fh {c:List Col} {ms:List Mov} {k:Nat} {m:Mov} (h:ms[k]? = some m):colsAt c ms (k+1)=(Ba (colsAt c ms k) m).1:=by rw [colsAt,h]
theorem Ko {ms:List Mov} {k:Nat} {m:Mov} (hk:ms[k]? = some m):ms.drop k=m::ms.drop (k+1):=by
 obtain ⟨h1,h2⟩:=Ae.1 hk
 rw [N8 h1,h2]
theorem AEl {c:List Col} {ms:List Mov}:NS c ms 0:=rfl
theorem W7 {c:List Col} {ms:List Mov} {k:Nat} {m:Mov} (hk:ms[k]? = some m) (h:NS c ms k) (he:(Ba (colsAt c ms k) m).2=0):NS c ms (k+1):=by
 unfold NS at h ⊢
 rw [h,Ko hk]
 have e:C2 (colsAt c ms k) (m::ms.drop (k+1))=(colsAt c ms k::(C2 (Ba (colsAt c ms k) m).1 (ms.drop (k+1))).1,(C2 (Ba (colsAt c ms k) m).1 (ms.drop (k+1))).2):=by
  rw [C2,if_neg (by rw [he];simp)]
 have e2:(C7 c ms (k+1)).dropLast=C7 c ms k:=by simp [C7]
 rw [e,e2,Fh hk]
 have e3:=g0 c ms k
 refine Prod.ext ?_ rfl
 show (C7 c ms k).dropLast++(colsAt c ms k::_)=C7 c ms k++_
 conv=>rhs;rw [←e3]
 simp
theorem g7 {c:List Col} {ms:List Mov} {k:Nat} {m:Mov} (hk:ms[k]? = some m) (h:NS c ms k) (he:(Ba (colsAt c ms k) m).2≠0):(C2 c ms).2=(Ba (colsAt c ms k) m).2:=by
 unfold NS at h
 rw [h,Ko hk,C2,if_pos (by simpa using he)]
theorem g8 {c:List Col} {ms:List Mov} (h:NS c ms ms.length):C2 c ms=(C7 c ms ms.length,0):=by
 unfold NS at h
 rw [h,me,C2]
 exact Prod.ext (g0 c ms ms.length) rfl
theorem ABq {c:List Col} {m:Mov} (hc:OkCols c) (h:OkMov m):OkCols (Ba c m).1:=by
 have h0:OkCols ([]:List Col):=⟨by decide,fun y hy=>by cases hy⟩
 unfold Ba
 split
 ·exact h0
 split
 ·exact h0
 split
 ·exact h0
 exact Y9 hc (Y8 h) (by rw [It];exact h.gives2)
theorem Ez {c:List Col} {ms:List Mov} (hc:OkCols c) (h:∀m∈ms,OkMov m):∀k,OkCols (colsAt c ms k)
 | 0=>hc
 | k+1=>by
  rw [colsAt]
  cases hk:ms[k]? with
  | none=>exact Ez hc h k
  | some m=>exact ABq (Ez hc h k) (h m (Bi hk))
theorem Gt (c:List Col) (ms:List Mov):∀k,(C7 c ms k).length=k+1
 | 0=>rfl
 | k+1=>by rw [C7,Ax,Gt c ms k];rfl
theorem g9 {c:List Col} {ms:List Mov} (h:K3 c ms=true) (hk:OkMovs ms):(∀m∈ms,MvOk m)∧ms.length≤8:=by
 unfold K3 Oi at h
 simp only [Az,decide_eq_true_eq,B1] at h
 exact ⟨fun m hm=>t7 (hk.each m hm) (Lg (h.2.2 m hm)),by omega⟩
theorem bu {c:List Col} {ms:List Mov} (h:K3 c ms=false):Cg c ms=([],1):=by
 have:Fe c ms=([],1):=if_neg (by rw [h];simp)
 unfold Cg
 rw [this];rfl
theorem Yc {c:List Col} {ms:List Mov} (h:K3 c ms=true) (he:(C2 c ms).2≠0):Cg c ms=([],(C2 c ms).2):=by
 have:Fe c ms=C2 c ms:=if_pos h
 unfold Cg
 rw [this,if_pos (by simpa using he)]
theorem bv {c:List Col} {ms:List Mov} {o:List (List Col)} (h:K3 c ms=true) (he:C2 c ms=(o,0)):Cg c ms=(o,0):=by
 have:Fe c ms=C2 c ms:=if_pos h
 unfold Cg
 rw [this,he];rfl
abbrev Lz (l:List (List Col)):AV:=.slice false 1 (l.map Ai)
theorem Iv {n k:Nat} {o:Bool} {l:List (List Col)}:Low n (.slice o k (l.map Ai)):=low_slice.2 fun y hy=>by
 obtain ⟨m,_,rfl⟩:=Cj.1 hy
 exact Dq
theorem AIe {U:List AObj} {i j:Nat} {x y:AObj} (h:U[i]? = some x) (hne:j≠i):(U.set j y)[i]? = some x:=by rw [Cf hne];exact h
theorem wy {n k:Nat} {o:Bool} {l:List (List Col)} {c:List Col}:Low n (.slice o k (l.map Ai++[Ai c])):=by
 have:=Iv (n:=n) (k:=k) (o:=o) (l:=l++[c])
 rwa [Bn] at this
theorem c46 (c:List Col) (hc:OkCols c) (hc2:c.length≤1000000) (l:List Mov) (h:OkMovs l) (Hp:List AObj):AFun Tryz.prog 46 [Ai c,Dm l] Hp (.tup [Lz (Cg c l).1,A4 (Cg c l).2]):=by
 refine Ah [.cell 4 41,.cell 5 38] [0,1,7,8] Tryz.func46 Tryz.ntmps46 (fun d=>?_)
 refine zp ?_;refine A2 [0,1,4,5,7,8] ?_;refine Z7 ?_;refine Aa Tryz.call79 (c79 c hc l h _) ?_;refine A5 ?_;refine A2 [0,1,4,5,7,8,12] ?_
 refine A3 (fun ht12=>?_) (fun ht12=>?_)
 ·have hm:=bu (by simpa using ht12)
  refine Ef ?_;refine Gz ?_;refine Ts 0 1 ?_;refine Gz ?_;refine Z41 ?_;exact A9 (B9 (Fc jA) (Fc jA)) ⟨by rw [hm];rfl,rfl⟩
 have hmay:K3 c l=true:=by simpa using ht12
 obtain ⟨hmv,hl8⟩:=g9 hmay h
 refine Of ?_;refine Aa Tryz.call92 (c92 c hc2 _) ?_;refine Ns ?_;refine Rd ?_;refine Wq jS ?_;refine A2 [0,1,4,5,6,7,8] ?_;refine Z53 ?_
 refine Mm (fun hlow=>?_)
 refine Z0 ?_;refine R.callO Tryz.call80 (c80 c l _) ?_
 rintro _ _ ⟨rfl,rfl⟩
 refine ⟨[.cells 30 [Ai c]],by simp,?_⟩
 rw [show oid (Hp++[AObj.cells 41 [AV.nil],AObj.cells 38 [A4 0],AObj.cells 41 [AV.slice true 1 [Ai c]]]).length 0=oid Hp.length 3 by simp [oid]]
 simp only [E8,E3]
 refine A2 [4,5,6,7,8,18] ?_;refine Ju ?_
 refine Nq (m:=4) Tryz.call127 (fun FR as' bd' hFR has hbd=>?_)
 have hFRl:∀s,Low (Hp.length+6) (FR s):=by
  intro s
  rw [hFR]
  refine Ot ?_
  revert s
  repeat (first|exact Bt|refine Bs (by first|(simp [oid,or_imp,forall_and];done)|(simp [oid,or_imp,forall_and];exact ⟨fun m _ a _=>Am _ a,fun m _ a _=>Am _ a⟩)|(simp [oid,or_imp,forall_and]<;>omega)) ?_)
 have hOl:∀{e:Int} {o:List (List Col)} {q:List Col} {lp:AObj},ObjLow (Hp.length+6) lp→∀x∈Hp++[AObj.cells 41 [AV.nil],AObj.cells 38 [A4 e],AObj.cells 41 [AV.slice true 1 ((o).map Ai)],AObj.cells 30 [Ai (q)],AObj.defs,lp],ObjLow (Hp.length+6) x:=by
  intro e o q lp hlp x hx
  refine L4 (fun x hx=>Nv (by omega) (hlow x hx)) (fun x hx=>?_) x hx
  simp only [B3,Dt,or_false] at hx
  rcases hx with rfl|rfl|rfl|rfl|rfl|rfl
  ·intro y hy;rw [Bh.1 hy];simp
  ·intro y hy;rw [Bh.1 hy];simp
  ·intro y hy;rw [Bh.1 hy];exact Iv
  ·intro y hy;rw [Bh.1 hy];exact Dq
  ·trivial
  exact hlp
 refine ⟨_,AMg (oid Hp.length 5) (oid Hp.length 3) l hmv (by omega) (colsAt c l) (Ez hc fun m hm=>h.each m hm) (fun k=>Hp++[AObj.cells 41 [AV.nil],AObj.cells 38 [A4 0],AObj.cells 41 [AV.slice true 1 ((C7 c l k).map Ai)],AObj.cells 30 [Ai (colsAt c l k)],AObj.defs,AObj.loop LoopState.ready none FR 29 #[19,20] as' bd' (oid Hp.length 4)]) (fun k=>Hp++[AObj.cells 41 [AV.nil],AObj.cells 38 [A4 0],AObj.cells 41 [AV.slice true 1 ((C7 c l (k+1)).map Ai)],AObj.cells 30 [Ai (colsAt c l k)],AObj.defs,AObj.loop LoopState.ready none FR 29 #[19,20] as' bd' (oid Hp.length 4)]) (NS c l) (fun V=>(∃(o:List (List Col)) (q:List Col),V=Hp++[AObj.cells 41 [AV.nil],AObj.cells 38 [A4 0],AObj.cells 41 [AV.slice true 1 ((o).map Ai)],AObj.cells 30 [Ai (q)],AObj.defs,AObj.loop LoopState.ready none FR 29 #[19,20] as' bd' (oid Hp.length 4)]∧C2 c l=(o,0))∨(∃(e:Int) (o:List (List Col)) (q:List Col),V=Hp++[AObj.cells 41 [AV.nil],AObj.cells 38 [A4 e],AObj.cells 41 [AV.slice true 1 ((o).map Ai)],AObj.cells 30 [Ai (q)],AObj.defs,AObj.loop LoopState.done (some Code.ret) FR 29 #[19,20] as' bd' (oid Hp.length 4)]∧e≠0∧(C2 c l).2=e)) (fun k=>by simp) (fun k=>by simp) (by simp [oid]) (by simp [oid]) (fun k=>(fun x hx=>by rw [Ax];exact hOl (lp:=AObj.loop LoopState.ready none FR 29 #[19,20] as' bd' (oid Hp.length 4)) (by exact ⟨hFRl,by simp [oid]⟩) x hx)) (fun k=>(fun x hx=>by rw [Ax];exact hOl (lp:=AObj.loop LoopState.ready none FR 29 #[19,20] as' bd' (oid Hp.length 4)) (by exact ⟨hFRl,by simp [oid]⟩) x hx)) AEl (fun k=>by rw [B6];rfl) (fun k=>by rw [B6];rfl) (fun k m hk he=>by rw [Du];simp only [Fh hk];rfl) (fun k m X hk hN=>?_) (fun hN=>.inl ⟨_,_,rfl,g8 hN⟩),?_⟩
 ·generalize hV:Hp++[AObj.cells 41 [AV.nil],AObj.cells 38 [A4 0],AObj.cells 41 [AV.slice true 1 ((C7 c l k).map Ai)],AObj.cells 30 [Ai (colsAt c l k)],AObj.defs,AObj.loop LoopState.ready none FR 29 #[19,20] as' bd' (oid Hp.length 4)]++X=V
  have hL:V[oid Hp.length 5]? = some (AObj.loop LoopState.ready none FR 29 #[19,20] as' bd' (oid Hp.length 4)):=by rw [←hV,Bp,B6];rfl
  have hA0:V[oid Hp.length 2]? = some (AObj.cells 41 [AV.slice true 1 ((C7 c l k).map Ai)]):=by rw [←hV,Bp,B6];rfl
  have hB0:V[oid Hp.length 0]? = some (AObj.cells 41 [AV.nil]):=by rw [←hV,Bp,B6];rfl
  have hC0:V[oid Hp.length 1]? = some (AObj.cells 38 [A4 0]):=by rw [←hV,Bp,B6];rfl
  refine Nh (pd:=none) (fr:=FR) (sz:=29) (ps:=#[19,20]) (df:=oid Hp.length 4) (asg:=as') (bd:=bd') hL rfl (by decide) (fun d=>?_)
  subst hFR has hbd
  refine Ep [4,5,6,19,20] ?_;refine Z2 ?_;refine A2 [4,5,6,7,20] ?_;refine Z61 ?_;refine A2 [4,5,6,7,8] ?_
  refine ⟨rfl,none,hL,?_⟩
  generalize hbz:(AObj.loop LoopState.busy _ _ _ _ _ _ _)=bz
  have hA:(V.set (oid Hp.length 5) bz)[oid Hp.length 2]? = some (AObj.cells 41 [AV.slice true 1 ((C7 c l k).map Ai)]):=by rw [Cf (Do (by decide))];exact hA0
  have hB:(V.set (oid Hp.length 5) bz)[oid Hp.length 0]? = some (AObj.cells 41 [AV.nil]):=by rw [Cf (Do (by decide))];exact hB0
  have hC:(V.set (oid Hp.length 5) bz)[oid Hp.length 1]? = some (AObj.cells 38 [A4 0]):=by rw [Cf (Do (by decide))];exact hC0
  refine Ju ?_;refine Z7 ?_;refine A2 [4,5,6,7,8,22] ?_
  refine A3 (fun ht22=>?_) (fun ht22=>?_)
  ·have he:(Ba (colsAt c l k) m).2≠0:=by simpa using ht22
   refine Z2 ?_
   refine De jS hB ?_ ?_
   ·simp
   refine De jS (AIe hC (Do (by decide))) ?_ ?_
   ·simp
   refine Ku ?_;refine ng ?_
   subst hbz
   refine ADf ?_
   refine .inl ⟨he,Hp++[AObj.cells 41 [AV.nil],AObj.cells 38 [A4 (Ba (colsAt c l k) m).2],AObj.cells 41 [AV.slice true 1 ((C7 c l k).map Ai)],AObj.cells 30 [Ai (colsAt c l k)],AObj.defs,_],?_,by simp,(fun x hx=>by rw [Ax];exact hOl (lp:=_) (by exact ⟨hFRl,by simp [oid]⟩) x hx),.inr ⟨_,_,_,rfl,he,g7 hk hN he⟩⟩
   subst hV
   simp only [Bp,Du,E8,E3,List.set_cons_succ,List.set_cons_zero]
  have he:(Ba (colsAt c l k) m).2=0:=by simpa using ht22
  refine Z4 ?_;refine Og ?_;refine R.loadUpT jA hA ?_;refine Z55 ?_
  refine D5 jU Tryz.type30 ?_ ?_ ?_
  ·have hol:=Gt c l k;have hkl:=(Ae.1 hk).1;simp [Tryz.t30];omega
  ·have hol:=Gt c l k;have hkl:=(Ae.1 hk).1;simp [Tryz.t30];omega
  refine Hg jS (getset hA) ?_ ?_
  ·exact wy
  refine Z96 ?_
  subst hbz
  refine AHa ?_
  refine .inr ⟨he,rfl,W7 hk hN he,?_⟩
  subst hV
  simp only [Bp,Du,E8,E3,List.set_cons_succ,List.set_cons_zero]
  rw [C7,Fh hk,Bn]
  rfl
 rintro r H' (⟨o,q,rfl,hrun⟩|⟨e,o,q,rfl,hne,hrun⟩)
 ·refine ⟨Hp,_,_,_,rfl,rfl,fun h=>h,?_,rfl,by simp,?_⟩
  ·intro o ho
   have:o=oid Hp.length 4:=by simpa using ho
   subst this
   rw [B6]
   rfl
  refine Z9 ?_;refine Z42 ?_;refine Gz ?_;refine Z50 ?_;exact A9 (B9 (Fc jA) (Fc jA)) ⟨by rw [bv hmay hrun],rfl⟩ (hlow:=by simp only [Ni,B3,Dt,or_false];rintro y (rfl|rfl);exact Iv;simp)
 refine ⟨Hp,_,_,_,rfl,rfl,fun h=>h,?_,rfl,by simp,?_⟩
 ·intro o ho
  have:o=oid Hp.length 4:=by simpa using ho
  subst this
  rw [B6]
  rfl
 refine W.nilOwn 0 1 ?_;refine Z64 ?_;exact A9 (B9 (Fc jA) (Fc jA)) ⟨by rw [Yc hmay (by rw [hrun];exact hne),hrun];rfl,rfl⟩

theorem wz (c:List Col) (ms:List Mov):(C2 c ms).1≠[]:=by
 cases ms with
 | nil=>simp [C2]
 | cons m r =>
  rw [C2]
  split<;>simp
theorem Yd:∀(c:List Col) (ms:List Mov),(C2 c ms).1.length≤ms.length+1
 | c,[]=>by simp [C2]
 | c,m::r=>by
  rw [C2]
  split
  ·simp
  have:=Yd (Ba c m).1 r
  simp only [B8]
  omega
theorem x5 {c:List Col} {ms:List Mov} (h:((Cg c ms).2 != 0)=false):(Cg c ms).1≠[]∧(Cg c ms).1.length≤9:=by
 unfold Cg at h ⊢
 by_cases h1:((Fe c ms).2 != 0)=true
 ·rw [if_pos h1] at h
  rw [h1] at h;cases h
 rw [if_neg h1]
 by_cases h2:K3 c ms=true
 ·have e:Fe c ms=C2 c ms:=if_pos h2
  rw [e]
  have h3:ms.length≤8:=by
   unfold K3 Oi at h2
   simp only [Az,decide_eq_true_eq] at h2
   omega
  have:=Yd c ms
  exact ⟨wz c ms,by omega⟩
 have e:Fe c ms=([],1):=if_neg h2
 rw [e] at h1
 exact absurd rfl h1
theorem ABr {l:List (List Col)} (h:l≠[]):(l.map Ai)[l.length-1]? = some (Ai (l.getLastD [])):=by
 have h1:0<l.length:=List.length_pos_iff.2 h
 rw [Ch,Ac (by omega),←List.getLast_eq_getElem (h:=h),yo,List.getLast?_eq_some_getLast h]
 rfl
theorem c21 (c:List Col) (hc:OkCols c) (hc2:c.length≤1000000) (l:List Mov) (h:OkMovs l) (Hp:List AObj):AFun Tryz.prog 21 [Ai c,Dm l] Hp (.tup [Ai (Ec c l).1,A4 (Ec c l).2]):=by
 refine Ah [.tmp 4,.tmp 5] [0,1] Tryz.func21 Tryz.ntmps21 (fun d=>?_)
 refine vh ?_;refine AH5 ?_;refine Z82 ?_;refine A2 [6,7] ?_;refine Z7 ?_;refine A2 [6,7,15] ?_
 refine A3 (fun ht15=>?_) (fun ht15=>?_)
 ·have hm:Ec c l=([],(Cg c l).2):=if_pos ht15
  exact zk
 have hm:Ec c l=((Cg c l).1.getLastD [],0):=if_neg (by rw [ht15];simp)
 obtain ⟨hne,hl9⟩:=x5 ht15
 have hl0:0<(Cg c l).1.length:=List.length_pos_iff.2 hne
 refine Rc ?_
 rw [Ag]
 refine A5 (h:=Q.sub64 (h1:=fun _=>by omega) (h2:=fun _=>by omega)) (hr:=?_)
 refine A5 (h:=Ad (((Cg c l).1.length-1)) (Ai ((Cg c l).1.getLastD [])) (fun _=>ABr hne)) (hr:=?_)
 refine Z8 ?_;exact AGv

theorem ACall.argLe {P:Program} {g:FuncId} {args args':List AV} {H:List AObj} {post:AV→List AObj→Prop} (h:ACall P g args' H post) (hl:args.length=args'.length) (hle:∀(i:Nat) (y y':AV),args[i]? = some y→args'[i]? = some y'→Le y y'):ACall P g args H post:=
 fun d G w vs h1 h2 h3 h4=>h d G w vs (h1.trans hl) (fun i y u hy hu=>by
  have hi:i<args.length:=by rw [hl];exact (Ae.1 hy).1
  exact (h2 i _ u (Ac hi) hu).le (hle i _ y (Ac hi) hy)) h3 h4
theorem Qc (s:Str):Le (.agg [A4 2,Ab s,A4 0,A4 0,Ab [],.nil]) (A7 (Bo s)):=by
 rw [Al]
 refine .agg _ _ rfl (fun y hy=>?_) (fun i y y' hy hy'=>?_)
 ·simp only [D0,B3,Dt,or_false] at hy
  rcases hy with rfl|rfl|rfl|rfl|rfl|rfl<;>rfl
 match i with
 | 0=>simp at hy;subst hy;simp [D0,Bo] at hy';subst hy';exact .inl rfl
 | 1=>simp at hy;subst hy;simp [D0,Bo] at hy';subst hy';exact .inl rfl
 | 2=>simp at hy;subst hy;simp [D0,Bo] at hy';subst hy';exact .inl rfl
 | 3=>simp at hy;subst hy;simp [D0,Bo] at hy';subst hy';exact .inl rfl
 | 4=>simp at hy;subst hy;simp [D0,Bo] at hy';subst hy';exact .inl rfl
 | 5=>simp at hy;subst hy;simp [D0,Bo] at hy';subst hy';exact .inr ⟨rfl,6,rfl⟩
 | i+6=>simp at hy
theorem AMh (x:Expr) (hx:okE 61 x) (s:Str) (Hp:List AObj):AFun Tryz.prog 27 [A7 x,.agg [A4 2,Ab s,A4 0,A4 0,Ab [],.nil]] Hp (B0 (eqE x (Bo s))):=
 ACall.argLe (c27 61 x hx (Bo s) Hp) rfl fun i y y' hy hy'=>by
  match i with
  | 0=>simp at hy hy';subst hy;subst hy';exact .refl _
  | 1=>simp only [On,ml,S9] at hy hy';subst hy;subst hy';exact Qc s
  | i+2=>simp at hy
def M0 (m:Mov):Bool:=
 if m.kind==1 then ((m.take.length:Int)==0)&&((m.give.length:Int)==1)
 else if m.kind==2 then ((m.take.length:Int)==1)&&((m.give.length:Int)==0)
 else if (m.kind==3) || (m.kind==6) then ((m.take.length:Int)==1)&&((m.give.length:Int)==1)
 else if m.kind==4 then ((m.take.length:Int)==1)&&decide ((2:Int)≤(m.give.length:Int))
 else if m.kind==5 then decide ((2:Int)≤(m.take.length:Int))&&((m.give.length:Int)==1)
 else false
theorem ABs (n:Nat):decide ((1:Int)<(n:Int))=decide ((2:Int)≤(n:Int)):=by
 by_cases h:2≤n
 ·have h1:(1:Int)<n:=by omega
  have h2:(2:Int)≤n:=by omega
  simp [h1,h2]
 have h1:¬(1:Int)<n:=by omega
 have h2:¬(2:Int)≤n:=by omega
 simp [h1,h2]
theorem ABt {m:Mov} (h:(((m.ahead.length:Int) != (m.give.length:Int)) || ((m.back.length:Int) != (m.take.length:Int)))=false):Fk m=M0 m:=by
 rw [l6 h,ABs,ABs]
 rfl
theorem x6 (k:Int):(C8 k==([]:Str))=(decide (k<1) || decide (3<k)):=by
 unfold C8
 by_cases h:k<1∨3<k
 ·rw [if_pos (by first|exact h|omega)]
  rcases h with h|h<;>simp [h]
 rw [if_neg (by first|exact h|omega)]
 have hk:k=1∨k=2∨k=3:=by omega
 rcases hk with rfl|rfl|rfl<;>rfl
theorem bw {m:Mov} {c:Col}:(((!(Cc c.name)) || ((m.kind==3)&&(c.kind != 0))) || ((m.kind != 3)&&(decide (c.kind<1) || decide (3<c.kind)))) = !K2 m c:=by
 rw [←x6]
 unfold K2
 rw [show (m.kind != 3) = !(m.kind==3) from rfl]
 cases h3:(m.kind==3) with
 | false=>cases Cc c.name<;>cases (C8 c.kind==([]:Str))<;>cases (c.kind != 0)<;>rfl
 | true =>
  by_cases h0:c.kind=0
  ·have e:(C8 c.kind==([]:Str))=true:=by rw [h0];rfl
   have e0:(c.kind != 0)=false:=by rw [h0];rfl
   rw [e,e0]
   cases Cc c.name<;>rfl
  have e0:(c.kind != 0)=true:=by simpa using h0
  rw [e0]
  cases Cc c.name<;>cases (C8 c.kind==([]:Str))<;>rfl
theorem W8 (l:List Expr):l.all B2=l.all Bc:=by
 congr 1
 funext e
 exact (D6 e).symm
theorem AEm {m:Mov} (h:(((((m.ahead.length:Int) != (m.give.length:Int)) || ((m.back.length:Int) != (m.take.length:Int))) || (!(m.ahead.all B2))) || (!(m.back.all B2)))=true):Fs m=false:=by
 rw [W8,W8] at h
 unfold Fs
 cases h1:(((m.ahead.length:Int) != (m.give.length:Int)) || ((m.back.length:Int) != (m.take.length:Int))) with
 | true=>rw [l5 h1];rfl
 | false =>
  rw [h1] at h
  cases h2:m.ahead.all Bc<;>cases h3:m.back.all Bc<;>simp_all
theorem AEn {m:Mov} (h:(((((m.ahead.length:Int) != (m.give.length:Int)) || ((m.back.length:Int) != (m.take.length:Int))) || (!(m.ahead.all B2))) || (!(m.back.all B2)))=false):Fk m=M0 m∧Fs m=(((M0 m&&m.give.all (K2 m))&&m.take.all Cc)&&Lx m):=by
 rw [W8,W8] at h
 simp only [Dn,Mh] at h
 have hk:=ABt (m:=m) (by simp only [Dn];exact h.1.1)
 refine ⟨hk,?_⟩
 unfold Fs
 rw [hk,h.1.2,h.2]
 simp
theorem AEo {m:Mov} (h6:(m.kind==6)=false):Lx m=((m.kind != 3) || (eqE (m.ahead.getD 0 Aw) (Bo (m.take.getD 0 []))&&eqE (m.back.getD 0 Aw) (Bo (m.give.getD 0 ⟨[],0⟩).name))):=by
 rw [show (m.kind != 3) = !(m.kind==3) from rfl]
 cases h:(m.kind==3) with
 | true=>rw [ABn h];rfl
 | false=>rw [ABp h h6];rfl
theorem AEp {m:Mov} (h6:(m.kind==6)=true):Lx m=(m.take.getD 0 []==(m.give.getD 0 ⟨[],0⟩).name):=ABo (by simp at h6 ⊢;omega) h6
theorem c83 (m:Mov) (h:OkMov m) (Hp:List AObj):AFun Tryz.prog 83 [G5 m] Hp (B0 (Fs m)):=by
 refine Ah [.tmp 2] [0] Tryz.func83 Tryz.ntmps83 (fun d=>?_)
 refine Z66 ?_;refine Er [0,1,3,0,8,24,7,127] 7 Ap (by kernel_rfl) ?_;refine Rb ?_;refine Z37 ?_;refine ee ?_;refine eo ?_;refine Z53 ?_
 simp only [Ag]
 refine Z75 ?_;refine Z52 ?_;refine B7 ?_;refine Z21 ?_;refine Bm Tryz.call130 (fun hB=>AM9 m.ahead h.ahead _) ?_;refine B7 ?_;refine Z21 ?_;refine Bm Tryz.call130 (fun hB=>AM9 m.back h.back _) ?_;refine Z80 ?_;refine A2 [1,3,4,38] ?_
 refine A3 (fun ht38=>?_) (fun ht38=>?_)
 ·simp only [Ag] at ht38
  have hm:=AEm ht38
  exact zl
 simp only [Ag] at ht38
 obtain ⟨hck,hm0⟩:=AEn ht38
 refine Of ?_;refine A2 [1,3,4,5] ?_
 refine Np ⟨178,A6 1 (.ro (Io m)) (A6 3 (A4 (m.take.length:Nat)) (A6 4 (A4 (m.give.length:Nat)) (A6 5 (B0 (M0 m)) (fun _=>.any)))),Hp,[],[],none⟩ ?_ ?_
 ·refine Z1 ?_;refine A2 [1,3,4,5,40] ?_;refine Wy ?_;refine A2 [1,3,4,5,40,41] ?_
  refine A3 (fun ht41=>?_) (fun ht41=>?_)
  ·refine vk ?_;refine Z81 ?_;exact B4 (by unfold M0;first|(simp only [ht38,ht41,hk3,hk6,Db,Ce,Fo,Ks,if_true,if_false,Ay,↓reduceIte]<;>rfl)|(simp only [ht38,ht41,hk3,Db,Ce,Fo,if_true,if_false,Ay,↓reduceIte]<;>rfl)|(simp only [ht38,ht41,if_true,if_false,Ay,↓reduceIte]<;>rfl))
  refine Z1 ?_;refine A2 [1,3,4,5,40,49] ?_
  refine A3 (fun ht49=>?_) (fun ht49=>?_)
  ·refine vk ?_;refine Z81 ?_;exact B4 (by unfold M0;first|(simp only [ht38,ht41,ht49,hk3,hk6,Db,Ce,Fo,Ks,if_true,if_false,Ay,↓reduceIte]<;>rfl)|(simp only [ht38,ht41,ht49,hk3,Db,Ce,Fo,if_true,if_false,Ay,↓reduceIte]<;>rfl)|(simp only [ht38,ht41,ht49,if_true,if_false,Ay,↓reduceIte]<;>rfl))
  refine Z7 ?_;refine A2 [1,3,4,5,40,57] ?_
  refine A3 (fun ht57=>?_) (fun ht57=>?_)
  ·have hk3:=ht57
   refine Z4 ?_
   refine A3 (fun ht57=>?_) (fun ht57=>?_)
   ·refine vk ?_;refine I4 ?_;exact Z57
   rw [hk3] at ht57;cases ht57
  have hk3:=ht57
  refine Z45 ?_;refine A2 [1,3,4,5,40,57] ?_;refine Gf ?_
  refine A3 (fun ht57=>?_) (fun ht57=>?_)
  ·have hk6:=ht57
   refine vk ?_;refine I4 ?_;exact Z57
  have hk6:=ht57
  refine Z1 ?_;refine A2 [1,3,4,5,40,66] ?_
  refine A3 (fun ht66=>?_) (fun ht66=>?_)
  ·refine vk ?_;refine Z81 ?_;exact B4 (by unfold M0;first|(simp only [ht38,ht41,ht49,ht57,ht57,ht66,hk3,hk6,Db,Ce,Fo,Ks,if_true,if_false,Ay,↓reduceIte]<;>rfl)|(simp only [ht38,ht41,ht49,ht57,ht57,ht66,hk3,Db,Ce,Fo,if_true,if_false,Ay,↓reduceIte]<;>rfl)|(simp only [ht38,ht41,ht49,ht57,ht57,ht66,if_true,if_false,Ay,↓reduceIte]<;>rfl))
  refine Z1 ?_;refine A2 [1,3,4,5,74] ?_
  refine A3 (fun ht74=>?_) (fun ht74=>?_)
  ·refine vk ?_;refine I4 ?_;exact Z51
  refine Ep [1,3,4,5] ?_;refine Gc ?_;refine I4 ?_;exact Z51
 refine Z7 ?_;refine A2 [1,3,4,83] ?_
 refine A3 (fun ht83=>?_) (fun ht83=>?_)
 ·have hkf:M0 m=false:=by simpa using ht83
  have hm:Fs m=false:=by rw [hm0,hkf];rfl
  exact zl
 have hkm:M0 m=true:=by simpa using ht83
 have hct:Fk m=true:=hck.trans hkm
 obtain ⟨hl3,hl4⟩:=Gm hct
 refine Mw ?_;refine A2 [1,3,4,6] ?_
 refine Bg (α:=Nat) (fun x=>⟨178,A6 1 (.ro (Io m)) (A6 3 (A4 (m.take.length:Nat)) (A6 4 (A4 (m.give.length:Nat)) (A6 6 (A4 (x:Nat)) (fun _=>.any)))),Hp,[],[],none⟩) (fun x=>x≤m.take.length∧∀(j:Nat) (y:Str),j<x→m.take[j]? = some y→(!Cc y)=false) (fun x=>m.take.length-x) (0) ⟨Ao _,fun j y h=>by omega⟩ (B4 (by simp)) rfl (fun x hx=>?_)
 refine Z30 ?_;refine A2 [1,3,4,6,86] ?_
 refine A3 (fun ht86=>?_) (fun ht86=>?_)
 ·have hlt:x<m.take.length:=by simpa using ht86
  have htk:=h.takes
  refine Sj ?_
  refine A5 (h:=Ad (x) (Ab m.take[x]) (fun _=>Ar hlt)) (hr:=?_)
  refine A5 ?_;refine Aa Tryz.call86 (c86 m.take[x] (h.names _ (As hlt)) _) ?_;refine A5 ?_;refine A2 [1,3,4,6,95] ?_
  refine A3 (fun ht95=>?_) (fun ht95=>?_)
  ·rw [←Eh] at ht95
   have hm:Fs m=false:=by
    rw [hm0,Qx.2 ⟨_,As hlt,by simpa using ht95⟩]
    simp
   refine Z18 ?_;exact ACx
  rw [←Eh] at ht95
  refine Z68 ?_;refine A2 [1,3,4,6] ?_;exact Au (x+1) ⟨hlt,Bw hlt hx.2 ht95⟩ (by omega) (Bk rfl)
 have hxe:m.take.length≤x:=by simpa using ht86
 have hta:m.take.all Cc=true:=by have:=Ia hxe hx.2;rw [If] at this;simpa using this
 refine ix ?_;refine A2 [1,4,7] ?_
 refine Bg (α:=Nat) (fun k=>⟨178,A6 1 (.ro (Io m)) (A6 4 (A4 (m.give.length:Nat)) (A6 7 (A4 (k:Nat)) (fun _=>.any))),Hp,[],[],none⟩) (fun k=>k≤m.give.length∧∀(j:Nat) (y:Col),j<k→m.give[j]? = some y→(!K2 m y)=false) (fun k=>m.give.length-k) (0) ⟨Ao _,fun j y h=>by omega⟩ (B4 (by simp)) rfl (fun k hk=>?_)
 refine Z30 ?_;refine A2 [1,4,7,98] ?_
 refine A3 (fun ht98=>?_) (fun ht98=>?_)
 ·have hlk:k<m.give.length:=by simpa using ht98
  have hgl:=h.gives2
  refine Sj ?_
  refine A5 (h:=Ad (k) (Bl m.give[k]) (fun _=>Ar hlk)) (hr:=?_)
  refine Z8 ?_;refine A2 [1,4,7,8] ?_;refine Z16 ?_
  refine A5 (h:=Ad (k) (Bl m.give[k]) (fun _=>Ar hlk)) (hr:=?_)
  refine Z0 ?_;refine Aa Tryz.call86 (c86 m.give[k].name (h.gives.2 _ (As hlk)) _) ?_;refine Z52 ?_;refine Tu ?_;refine Z52 ?_;refine Qg ?_;refine Z5 ?_;refine Z80 ?_;refine A2 [1,4,7,136] ?_
  refine A3 (fun ht136=>?_) (fun ht136=>?_)
  ·rw [←Eh,bw] at ht136
   have hm:Fs m=false:=by
    rw [hm0,Qx.2 ⟨_,As hlk,by simpa using ht136⟩]
    simp
   refine Z18 ?_;exact ACx
  rw [←Eh,bw] at ht136
  refine Z68 ?_;refine A2 [1,4,7] ?_;exact Au (k+1) ⟨hlk,Bw hlk hk.2 ht136⟩ (by omega) (Bk rfl)
 have hke:m.give.length≤k:=by simpa using ht98
 have hga:m.give.all (K2 m)=true:=by have:=Ia hke hk.2;rw [If] at this;simpa using this
 have hm1:Fs m=Lx m:=by rw [hm0,hkm,hga,hta];rfl
 have g1:=fun h0=>Od (f:=A7) (l:=m.ahead) (d:=Aw) h0
 have g2:=fun h0=>Od (f:=A7) (l:=m.back) (d:=Aw) h0
 have g3:=fun h0=>Od (f:=Ab) (l:=m.take) (d:=[]) h0
 have g4:=fun h0=>Od (f:=Bl) (l:=m.give) (d:=⟨[],0⟩) h0
 refine Z36 ?_;refine Z30 ?_;refine A2 [1,139] ?_
 refine A3 (fun ht139=>?_) (fun ht139=>?_)
 ·obtain ⟨hl1,hl2⟩:=Pn hct (by rw [ht139];simp)
  have hm:=hm1.trans (AEp ht139)
  refine AKe ?_
  refine Av (h:=Ad (0) (Ab (m.take.getD 0 [])) (fun _=>g3 (by omega))) (hr:=?_)
  refine Z37 ?_
  refine Av (h:=Ad (0) (Bl (m.give.getD 0 ⟨[],0⟩)) (fun _=>g4 (by omega))) (hr:=?_)
  refine Z10 ?_;refine Hf ?_;refine Z43 ?_;exact Z88
 have hm:=hm1.trans (AEo ht139)
 have len3:((m.kind != 3)==false)=true→0<m.ahead.length∧0<m.take.length∧0<m.back.length∧0<m.give.length:=fun hB=>by
  obtain ⟨a1,a2⟩:=Pn hct (by simp at hB;rw [hB];rfl)
  omega
 have and3:∀{b:Bool},(((m.kind != 3)==false)&&b)=true→((m.kind != 3)==false)=true:=fun h=>AEg h
 refine Z4 ?_;refine Er [0,1,3,7,15,31,63,127,15,271,783,1807,3855,8191,16383,32767,65535,131071,262143,32767,557055,1605631,3702783,7897087,16285695,33554431,67108863,134217727,268435455] 25 Ap (by kernel_rfl) ?_;refine Rb ?_;refine Z85 ?_
 refine H.go (h:=Ad (0) (A7 (m.ahead.getD 0 Aw)) (fun hB=>g1 (len3 hB).1)) (hr:=?_)
 refine iu ?_
 refine H.go (h:=Ad (0) (Ab (m.take.getD 0 [])) (fun hB=>g3 (len3 hB).2.1)) (hr:=?_)
 refine H.go ?_;refine H.build (places:=#[(0,1),(1,1),(2,3),(5,1)]) jU (fun w=>by simp) jZ ?_;refine H.call Tryz.call27 (fun hB=>AMh (m.ahead.getD 0 Aw) (h.ahead.ok _ (N6 (len3 hB).1)) (m.take.getD 0 []) _) ?_;refine iu ?_
 refine H.go (h:=Ad (0) (A7 (m.back.getD 0 Aw)) (fun hB=>g2 (len3 (and3 hB)).2.2.1)) (hr:=?_)
 refine iu ?_
 refine H.go (h:=Ad (0) (Bl (m.give.getD 0 ⟨[],0⟩)) (fun hB=>g4 (len3 (and3 hB)).2.2.2)) (hr:=?_)
 refine Z85 ?_;refine H.build (places:=#[(0,1),(1,1),(2,3),(5,1)]) jU (fun w=>by simp) jZ ?_;refine Hf ?_;refine Bm Tryz.call27 (fun hB=>AMh (m.back.getD 0 Aw) (h.back.ok _ (N6 (len3 (and3 hB)).2.2.1)) (m.give.getD 0 ⟨[],0⟩).name _) ?_;refine B7 ?_;exact AKb

theorem c37 (l:List Mov) (h:OkMovs l) (Hp:List AObj):AFun Tryz.prog 37 [Dm l] Hp (B0 (Oi l)):=by
 refine Ah [.tmp 2] [0] Tryz.func37 Tryz.ntmps37 (fun d=>?_)
 refine nl ?_;refine A2 [0,6] ?_
 refine A3 (fun ht6=>?_) (fun ht6=>?_)
 ·rw [Ag] at ht6
  have hm:Oi l=false:=by
   unfold Oi
   rw [show decide ((l.length:Int)≤8)=false by simp at ht6 ⊢;omega]
   rfl
  exact AD5
 rw [Ag] at ht6
 have h8:decide ((l.length:Int)≤8)=true:=by simp at ht6 ⊢;omega
 have hl8:l.length≤8:=by simp at h8;omega
 refine Mw ?_;refine Mn ?_
 refine Bg (α:=Nat) (fun x=>⟨19,A6 0 (Dm l) (A6 3 (A4 (x:Nat)) (fun _=>.any)),Hp,[],[],none⟩) (fun x=>x≤l.length∧∀(j:Nat) (y:Mov),j<x→l[j]? = some y→(!Fs y)=false) (fun x=>l.length-x) (0) ⟨Ao _,fun j y h=>by omega⟩ (B4 (by simp)) rfl (fun x hx=>?_)
 refine Z46 ?_;refine A2 [0,3,10] ?_
 refine A3 (fun ht10=>?_) (fun ht10=>?_)
 ·have hlt:x<l.length:=by simpa using ht10
  refine Sk ?_
  refine A5 (h:=Ad (x) (G5 l[x]) (fun _=>Ar hlt)) (hr:=?_)
  refine A5 ?_;refine Aa Tryz.call83 (c83 l[x] (h.each _ (As hlt)) _) ?_;refine A5 ?_;refine A2 [0,3,18] ?_
  refine A3 (fun ht18=>?_) (fun ht18=>?_)
  ·have hm:Oi l=false:=by
    unfold Oi
    rw [Qx.2 ⟨_,As hlt,by simpa using ht18⟩]
    simp
   refine Z18 ?_;exact Z62
  refine vf ?_;exact Au (x+1) ⟨hlt,Bw hlt hx.2 ht18⟩ (by omega) (Bk rfl)
 have hxe:l.length≤x:=by simpa using ht10
 have hm:Oi l=true:=by
  have h2:=Ia hxe hx.2
  rw [If] at h2
  unfold Oi
  rw [h8]
  simpa using h2
 exact ADa

theorem AEq (c:List Col) (ms:List Mov):∀k,((C7 c ms k).map Ai)[k]? = some (Ai (colsAt c ms k))
 | 0=>rfl
 | k+1=>by
  have h:=Gt c ms k
  rw [C7,Bn,Dx (by rw [Ag];omega),Ag,h,S8]
  rfl
theorem qf {c:List Col} {ms:List Mov} {k:Nat} {m:Mov} (hk:ms[k]? = some m) (h:NS c ms k) (he:(Ba (colsAt c ms k) m).2≠0):C2 c ms=(C7 c ms k,(Ba (colsAt c ms k) m).2):=by
 unfold NS at h
 rw [h,Ko hk,C2,if_pos (by simpa using he)]
 exact Prod.ext (g0 c ms k) rfl
theorem AIf {c:List Col} {l:List Mov} (h:((!(Cx c)) || (!(Oi l)))=true):Fe c l=([],1):=if_neg (by unfold K3;cases h1:Cx c<;>cases h2:Oi l<;>simp_all)
theorem AEr {c:List Col} {l:List Mov} (h:((!(Cx c)) || (!(Oi l)))=false):K3 c l=true:=by unfold K3;cases h1:Cx c<;>cases h2:Oi l<;>simp_all
theorem c13 (c:List Col) (hc:OkCols c) (l:List Mov) (h:OkMovs l) (Hp:List AObj):AFun Tryz.prog 13 [Ai c,Dm l] Hp (.tup [Lz (Fe c l).1,A4 (Fe c l).2]):=by
 refine Ah [.tmp 4,.tmp 5] [0,1] Tryz.func13 Tryz.ntmps13 (fun d=>?_)
 refine vh ?_;refine Z25 ?_;refine Aa Tryz.call36 (c36 c hc _) ?_;refine Z95 ?_;refine Bm Tryz.call37 (fun hB=>c37 l h _) ?_;refine Z80 ?_;refine A2 [0,1,17] ?_
 refine A3 (fun ht17=>?_) (fun ht17=>?_)
 ·have hm:=AIf ht17
  refine Z2 ?_;refine R.nilTmp 4 1 false ?_;refine A5 ?_;refine Z41 ?_;exact A9 (B9 A8 A8) ⟨by rw [hm];rfl,rfl⟩
 have hmay:=AEr ht17
 obtain ⟨hmv,hl8⟩:=g9 hmay h
 have hmr:Fe c l=C2 c l:=if_pos hmay
 refine Of ?_;refine Ns ?_;refine Kk ?_;refine A2 [1,6] ?_;refine Z25 ?_;refine A2 [1,6,7] ?_
 refine Bg (α:=Nat) (fun x=>⟨47,A6 1 (Dm l) (A6 6 (.slice true 1 ((C7 c l x).map Ai)) (A6 7 (A4 (x:Nat)) (fun _=>.any))),Hp,[],[],none⟩) (fun x=>x≤l.length∧NS c l x) (fun x=>l.length-x) (0) ⟨Ao _,AEl⟩ (B4 (by simp [C7])) rfl (fun x hx=>?_)
 refine Z46 ?_;refine A2 [1,6,7,23] ?_
 refine A3 (fun ht23=>?_) (fun ht23=>?_)
 ·have hlt:x<l.length:=by simpa using ht23
  refine Z35 ?_;refine Er [0,0,3,7,0,0,48,112,255,511,1023,1023,2047,8191] 13 Ap (by kernel_rfl) ?_;refine Z10 ?_
  refine Av (h:=Ad (x) (Ai (colsAt c l x)) (fun _=>AEq c l x)) (hr:=?_)
  refine Z37 ?_
  refine Av (h:=Ad (x) (G5 l[x]) (fun _=>Ar hlt)) (hr:=?_)
  refine Av ?_;refine I3 Tryz.call38 (c38 (colsAt c l x) (Ez hc (fun m hm=>h.each m hm) x) l[x] (hmv _ (As hlt)) _) ?_;refine Rb ?_;refine ee ?_;refine A2 [1,6,7,8,9] ?_;refine Z7 ?_;refine A2 [1,6,7,8,9,39] ?_
  refine A3 (fun ht39=>?_) (fun ht39=>?_)
  ·have he:(Ba (colsAt c l x) l[x]).2≠0:=by simpa using ht39
   have hm:Fe c l=(C7 c l x,(Ba (colsAt c l x) l[x]).2):=hmr.trans (qf (Ac hlt) hx.2 he)
   refine Z34 ?_;refine Z41 ?_;refine Z28 ?_;exact ALa
  have he:(Ba (colsAt c l x) l[x]).2=0:=by simpa using ht39
  refine vl ?_
  refine D5 jU Tryz.type30 ?_ ?_ ?_
  ·have hol:=Gt c l x;simp [Tryz.t30];omega
  ·have hol:=Gt c l x;simp [Tryz.t30];omega
  refine Kk ?_;refine A2 [1,6,7] ?_;refine Z87 ?_;refine A2 [1,6,7] ?_
  refine Au (x+1) ⟨hlt,W7 (Ac hlt) hx.2 he⟩ (by omega) (Bk ?_)
  rw [C7,Fh (Ac hlt),Bn]
  rfl
 have hxe:x=l.length:=by have:=hx.1;simp at ht23;omega
 have hm:Fe c l=(C7 c l x,0):=by rw [hmr];subst hxe;exact g8 hx.2
 refine Z36 ?_;refine Z16 ?_;refine Z50 ?_;exact ALa

theorem x7 {n k:Nat} {o:Bool} {l:List Str}:Low n (.slice o k (l.map Ab)):=by simp [or_imp,forall_and]
def L7 (c:List Col):List Expr:=c.map fun x=>Bo x.name
theorem Iq {n k:Nat} {o:Bool} {a:List Expr} {e:Expr}:Low n (.slice o k (a.map A7++[A7 e])):=low_slice.2 fun y hy=>by
 rcases Ds.1 hy with h|h
 ·obtain ⟨m,_,rfl⟩:=Cj.1 h
  exact Am _ _
 rw [Bh.1 h]
 exact Am _ _
theorem Cr {n k:Nat} {o:Bool} {a:List Expr}:Low n (.slice o k (a.map A7)):=low_slice.2 fun y hy=>by
 obtain ⟨m,_,rfl⟩:=Cj.1 hy
 exact Am _ _
theorem c74 (c:List Col) (hc:c.length≤1048576) (Hp:List AObj):AFun Tryz.prog 74 [Ai c] Hp (Bd (L7 c)):=by
 refine Ah [.tmp 2] [0] Tryz.func74 Tryz.ntmps74 (fun d=>?_)
 refine Z44 ?_;refine Z2 ?_;refine Mn ?_;refine Z53 ?_;refine Tr 3 6 ?_;refine Z8 ?_;refine A2 [3,6,7,8] ?_
 refine Bg (α:=Nat) (fun x=>⟨20,A6 3 (.slice true 6 (((c.take x).map fun y=>Bo y.name).map A7)) (A6 6 (Ai c) (A6 7 (A4 (c.length:Nat)) (A6 8 (A4 (x:Nat)) (fun _=>.any)))),Hp,[],[],none⟩) (fun x=>x≤c.length) (fun x=>c.length-x) (0) (Ao _) (B4 (by simp)) rfl (fun x hx=>?_)
 refine Z2 ?_;refine A2 [3,6,7,8,9] ?_
 refine E2 (fun ht9=>?_) (fun ht9=>?_)
 ·have hlt:x<c.length:=by simpa using ht9
  refine Tt ?_
  refine A5 (h:=Ad (x) (Bl c[x]) (fun _=>Ar hlt)) (hr:=?_)
  refine Si ?_;refine A2 [3,5,6,7,8] ?_;refine Z83 ?_;refine AGt ?_;refine R.wk 15 _ (Qc c[x].name) ?_;refine Ns ?_
  refine D5 jU Tryz.type27 ?_ ?_ ?_
  ·simp only [Ag,Bx,B8,Bq,Tryz.t27];omega
  ·simp only [Ag,Bx,B8,Bq,Tryz.t27];omega
  refine Kk ?_;refine A2 [3,6,7,8] ?_;refine X0 ?_;refine A2 [3,6,7,8] ?_;refine Au (x+1) hlt (by omega) ?_
  rw [Iu hlt,Bn]
  exact Di (own:=[]) (fun _=>.refl _) (by repeat (first|exact Bt|refine Bs (by first|(simp [or_imp,forall_and];done)|exact Iq|exact Dq) ?_)) (by simp) (by simp)
 have hxe:c.length≤x:=by simpa using ht9
 refine Z17 ?_;refine iz ?_;exact A9 (Aj A8) ⟨by unfold L7;rw [Cu hxe],rfl⟩ (hlow:=Cr)

/-! fuse: trees in columns' places. -/
mutual
def putF (c:List Col) (l:List Expr):Expr→Option Expr
 | .mk o t v k=>if o==2 then (if At t c<0 then none else some (l.getD (At t c).toNat Aw)) else (Kp c l k).map fun k'=>.mk o t v k'
def Kp (c:List Col) (l:List Expr):List Expr→Option (List Expr)
  | []=>some []
  | e::r=>match putF c l e with
    | none=>none
    | some y=>(Kp c l r).map fun s=>y::s
 end
/-- fuse.Over. -/
def Dr (x:Expr) (c:List Col) (l:List Expr):Expr×Int:=
 if (((!(Bc x)) || l.any Fy) || !(Pc c)) || ((c.length:Int) != (l.length:Int)) then (Aw,1)
 else match putF c l x with
  | none=>(Aw,9)
  | some y=>if Bc y then (y,0) else (Aw,3)
/-- fuse.over: the trees, till one goes wrong. -/
def C3 (c:List Col) (by_:List Expr):List Expr→List Expr×Int
 | []=>([],0)
 | x::r=>if (Dr x c by_).2 != 0 then ([],(Dr x c by_).2) else if (C3 c by_ r).2 != 0 then ([],(C3 c by_ r).2) else ((Dr x c by_).1::(C3 c by_ r).1,0)
/-- fuse.stay. -/
def E0 (take:List Str):List Col→List Expr→List Expr
 | y::c,x::l=>if take.contains y.name then E0 take c l else x::E0 take c l
 | _,_=>[]
theorem Lh {take:List Str}:∀{c:List Col} {l:List Expr},c.length=l.length→(E0 take c l).length=(Cd c take).length
 | [],[],_=>rfl
 | [],_::_,h=>by simp at h
 | _::_,[],h=>by simp at h
 | y::c,x::l,h=>by
  have ih:=Lh (take:=take) (c:=c) (l:=l) (by simpa using h)
  unfold E0 Cd
  by_cases hc:take.contains y.name=true
  ·rw [if_pos hc]
   simp only [R1,hc,Kr,Ay,if_false]
   exact ih
  rw [if_neg hc]
  have hc':take.contains y.name=false:=by simpa using hc
  simp only [R1,hc',Th,if_true,B8]
  exact congrArg (·+1) ih
theorem M1 {c:List Col} {by_:List Expr}:∀(l:List Expr),(C3 c by_ l).2=0→(C3 c by_ l).1.length=l.length
 | [],_=>rfl
 | x::r,h=>by
  unfold C3 at h ⊢
  split at h
  ·rename_i h1
   exact AHe
  rename_i h1
  rw [if_neg h1]
  split at h
  ·rename_i h2
   exact absurd h (by simpa using h2)
  rename_i h2
  rw [if_neg h2]
  have:=M1 (c:=c) (by_:=by_) r (by simpa using h2)
  simp [this]
set_option maxRecDepth 8000
/-! How long a print is. -/
theorem ABu {t:Str} (h:0≤Hn t):t.length≤3:=by
 rcases k9 t with hm|⟨hm,_⟩
 ·have h3:(levels.flatten.all fun s=>decide (s.length≤3))=true:=by kernel_rfl
  exact of_decide_eq_true (B1.1 h3 t hm)
 omega
theorem qg {t:Str} {n:Nat} (h:Ci t=(n:Int)):t.length≤6:=by
 rcases Y3 h with ⟨e,_⟩|⟨e,_⟩|⟨e,_⟩|⟨e,_⟩|⟨e,_⟩|⟨e,_⟩|⟨e,_⟩|⟨e,_⟩<;>rw [e]<;>decide
set_option maxRecDepth 4000
theorem qh {e:Expr} (h:E5 e=true):e.text.length≤16∧e.kids.length≤8:=by
 cases Nx h with
 | val v hp h0=>exact ⟨by simp [Rm,Expr.text],by simp [Rm,Expr.kids]⟩
 | name t ht =>
  refine ⟨?_,by simp [Bo,Expr.kids]⟩
  show t.length≤16
  cases t with
  | nil=>simp
  | cons c r =>
   simp only [Hl,Az,decide_eq_true_eq] at ht
   exact ht.1.1.1
 | neg a=>exact ⟨by simp [N2,Expr.text],by simp [N2,Expr.kids]⟩
 | no a=>exact ⟨by simp [N2,Expr.text],by simp [N2,Expr.kids]⟩
 | bin t a b ht=>exact ⟨by have:=ABu ht;show t.length≤16;omega,by simp [Oh,Expr.kids]⟩
 | call t k ha =>
  refine ⟨by have:=qg ha;show t.length≤16;omega,?_⟩
  show k.length≤8
  rcases Y3 ha with ⟨_,e⟩|⟨_,e⟩|⟨_,e⟩|⟨_,e⟩|⟨_,e⟩|⟨_,e⟩|⟨_,e⟩|⟨_,e⟩<;>omega
theorem bx:∀{l:List Expr} {y:Expr},y∈l→depthE y≤Ei l
 | a::r,y,h=>by
  rw [Ei]
  rcases B3.1 h with rfl|h
  ·omega
  have:=bx h
  omega
theorem th:∀(n:Nat) (e:Expr),depthE e≤n→F7 E5 e=true→okE n e
 | 0,e,h,_=>by rw [Q9] at h;omega
 | n+1,e,h,hn=>by
  rw [Ht,Az] at hn
  rw [Q9] at h
  have hs:=qh hn.1
  refine ⟨by omega,by omega,fun y hy=>th n y (by have:=bx hy;omega) ((J7 _ _).1 hn.2 y hy)⟩
theorem Hw {e:Expr} (h:B2 e=true):okE 30 e∧sizeE e≤300:=by
 have h1:=K1 h
 unfold B2 at h
 simp only [Az,decide_eq_true_eq] at h
 exact ⟨th 30 e h.1.1 h1,h.1.2⟩
def l8 (c:List Col) (l:List Expr) (e:Expr):Expr:=(putF c l e).getD Aw
theorem c9 {c:List Col} {l:List Expr}:∀{k:List Expr},(∀(j:Nat) (y:Expr),k[j]? = some y→(!(putF c l y).isSome)=false)→Kp c l k=some (k.map (l8 c l))
 | [],_=>rfl
 | e::r,h=>by
  have h1:=h 0 e rfl
  have h2:=c9 (c:=c) (l:=l) (k:=r) (fun j y hy=>h (j+1) y hy)
  rw [Kp]
  cases he:putF c l e with
  | none=>rw [he] at h1;cases h1
  | some z=>rw [h2,Br,show l8 c l e=z by unfold l8;rw [he];rfl];rfl
theorem ca {c:List Col} {l:List Expr}:∀{k:List Expr} {e:Expr},e∈k→putF c l e=none→Kp c l k=none
 | a::r,e,hm,h=>by
  rw [Kp]
  rcases B3.1 hm with rfl|hm
  ·rw [h]
  have:=ca hm h
  cases ha:putF c l a with
  | none=>rfl
  | some z=>rw [this];rfl
theorem Ye {c:List Col} {l:List Expr} {x:Expr} (h:(x.op==2)=true):putF c l x=if At x.text c<0 then none else some (l.getD (At x.text c).toNat Aw):=by
 cases x;rw [putF];exact if_pos h
theorem Yf {c:List Col} {l:List Expr} {x:Expr} (h:(x.op==2)=false):putF c l x=(Kp c l x.kids).map fun k'=>.mk x.op x.text x.val k':=by
 cases x;rw [putF];exact if_neg (fun e=>Bool.false_ne_true (h.symm.trans e))
theorem Yg {c:List Col} {l:List Expr} {s:Str} (hl:c.length=l.length) (hf:¬At s c<0):(l.map A7)[(At s c).toNat]? = some (A7 (l.getD (At s c).toNat Aw))∧(At s c).toNat<l.length∧0≤At s c:=by
 obtain ⟨j,hj,hjl⟩:=Fl hf
 rw [hj,Int.toNat_natCast]
 refine ⟨?_,by omega,by omega⟩
 rw [Ch,Ac (by omega),Cq,Ac (by omega)]
 rfl
theorem APh (c:List Col) (hc:OkCols c) (l:List Expr) (hl:c.length=l.length):∀(n:Nat) (x:Expr),okE n x→∀Hp:List AObj,AFun Tryz.prog 124 [A7 x,Ai c,Bd l] Hp (.tup [A7 ((putF c l x).getD Aw),B0 (putF c l x).isSome]):=by
 intro n
 induction n with
 | zero=>exact fun e h=>h.elim
 | succ n ih =>
 intro x hok Hp
 refine Ah [.cell 6 27,.tmp 7] [0,1,2] Tryz.func124 Tryz.ntmps124 (fun d=>?_)
 refine nf ?_;refine Rd ?_;refine n8 ?_;refine Z30 ?_;refine A2 [1,2,3,6,16] ?_
 refine A3 (fun ht16=>?_) (fun ht16=>?_)
 ·have hpn:=Ye (c:=c) (l:=l) ht16
  refine Z16 ?_;refine Aa Tryz.call60 (c60 c hc x.text _) ?_;refine A5 ?_;refine A2 [2,6,8] ?_;refine Z7 ?_;refine A2 [2,6,8,22] ?_
  refine A3 (fun ht22=>?_) (fun ht22=>?_)
  ·have hm:putF c l x=none:=by rw [hpn,if_pos (by simpa using ht22)]
   refine v9 ?_;refine Z76 ?_;refine Gg ?_;exact ALb
  have hneg:¬At x.text c<0:=by simpa using ht22
  have hm:putF c l x=some (l.getD (At x.text c).toNat Aw):=by rw [hpn,if_neg hneg]
  refine Nr ?_
  obtain ⟨_,hg1,hg2⟩:=Yg hl hneg
  refine A5 (h:=Ad ((At x.text c).toNat) (A7 (l.getD (At x.text c).toNat Aw)) (fun _=>(Yg hl hneg).1)) (hr:=?_)
  refine Z49 ?_;refine Z76 ?_;exact A9 (B9 (B5 jA jS) A8) ⟨by rw [hm];show _=AV.tup [A7 (l.getD _ Aw),B0 true];rw [Al]<;>rfl,rfl⟩ (hlow:=by simp [or_imp,forall_and,Am])
 have hpk:=Yf (c:=c) (l:=l) ht16
 refine Rc ?_;refine A2 [1,2,3,6,9] ?_;refine Z42 ?_;refine A2 [1,2,3,6,9] ?_;refine Z53 ?_;refine Fx 0 5 6 ?_;refine Z8 ?_;refine A2 [1,2,3,6,31,32,33] ?_
 refine Bg (α:=Nat) (fun i=>⟨55,A6 1 (Ai c) (A6 2 (Bd l) (A6 3 (.ptr (oid Hp.length 0) 0) (A6 6 (.ptr (oid Hp.length 1) 0) (A6 31 (.slice false 6 (x.kids.map A7)) (A6 32 (A4 (x.kids.length:Nat)) (A6 33 (A4 (i:Nat)) (fun _=>.any))))))),Hp,[.cells 27 [A4 x.op,Ab x.text,A4 x.val.kind,A4 x.val.n,Ab x.val.s,.slice true 6 (((x.kids.take i).map (l8 c l)).map A7)],.cells 27 [A4 0,Ab [],A4 0,A4 0,Ab [],.nil]],[],none⟩) (fun i=>i≤x.kids.length∧∀(j:Nat) (y:Expr),j<i→x.kids[j]? = some y→(!(putF c l y).isSome)=false) (fun i=>x.kids.length-i) (0) ⟨Ao _,fun j y h=>by omega⟩ (B4 (by simp)) rfl (fun i hi=>?_)
 refine Z2 ?_;refine A2 [1,2,3,6,31,32,33,34] ?_
 refine E2 (fun ht34=>?_) (fun ht34=>?_)
 ·have hlt:i<x.kids.length:=by simpa using ht34
  have hkl:=hok.2.1
  refine Tt ?_
  refine A5 (h:=Ad (i) (A7 x.kids[i]) (fun _=>Ar hlt)) (hr:=?_)
  refine Si ?_;refine A2 [1,2,3,6,11,31,32,33] ?_;refine Z16 ?_;refine Aa Tryz.call124 (ih x.kids[i] (hok.2.2 _ (As hlt)) _) ?_;refine Qf ?_;refine A2 [1,2,3,6,12,13,31,32,33] ?_;refine Z7 ?_;refine A2 [1,2,3,6,12,31,32,33,45] ?_
  refine A3 (fun ht45=>?_) (fun ht45=>?_)
  ·have hm:putF c l x=none:=by rw [hpk,ca (As hlt) (by simpa using ht45)];rfl
   refine v9 ?_;refine Z76 ?_;refine Z28 ?_;exact ALb
  refine Z4 ?_;refine Z61 ?_;refine dr jA ?_;refine Z55 ?_
  refine D5 jU Tryz.type27 ?_ ?_ ?_
  ·simp only [Ag,Bx,B8,Bq,Tryz.t27];omega
  ·simp only [Ag,Bx,B8,Bq,Tryz.t27];omega
  refine AD8 ?_;refine A2 [1,2,3,6,31,32,33] ?_;refine X0 ?_;refine A2 [1,2,3,6,31,32,33] ?_;refine Au (i+1) ⟨hlt,Bw hlt hi.2 ht45⟩ (by omega) ?_
  have hlo:=fun m=>ABe (n:=m) (x:=x) (o:=true) (l:=(x.kids.take i).map (l8 c l)++[l8 c l x.kids[i]])
  simp only [Bn,Br,Ct,Al] at hlo
  simp only [show Tryz.t27.size=6 from rfl]
  rw [Iu hlt,Bn,Br,Ct,Al]
  exact Di (fun _=>.refl _) (by repeat (first|exact Bt|refine Bs (by first|exact Cr|exact Dq|(simp [oid,Am];done)|(simp [oid]<;>omega)) ?_)) (AOq (hlo _) fk) (by simp)
 have hxe:x.kids.length≤i:=by simpa using ht34
 have hm:putF c l x=some (.mk x.op x.text x.val (x.kids.map (l8 c l))):=by rw [hpk,c9 (fun j y hy=>hi.2 j y (by have:=(Ae.1 hy).1;omega) hy)];rfl
 refine Z17 ?_;refine Z42 ?_;refine ef ?_;exact A9 (B9 (B5 jA jS) A8) ⟨by rw [hm];show _=AV.tup [A7 (.mk x.op x.text x.val (x.kids.map (l8 c l))),B0 true];rw [Rq,Cu hxe],rfl⟩ (hlow:=by simp [or_imp,forall_and];intro y hy;obtain ⟨e,_,rfl⟩:=Cj.1 (Pu hy);exact Am _ _)

theorem Rs {c:List Col} {l:List Expr}:∀{k s:List Expr},Kp c l k=some s→s.length=k.length∧∀y∈s,∃e∈k,putF c l e=some y
 | [],s,h=>by
  rw [Kp] at h
  injection h with h
  subst h
  exact ⟨rfl,fun y hy=>by cases hy⟩
 | a::r,s,h=>by
  rw [Kp] at h
  cases ha:putF c l a with
  | none=>rw [ha] at h;cases h
  | some z =>
   rw [ha] at h
   simp only at h
   cases hr:Kp c l r with
   | none=>rw [hr] at h;cases h
   | some t =>
    rw [hr] at h
    injection h with h
    subst h
    obtain ⟨h1,h2⟩:=Rs hr
    refine ⟨by simp [h1],fun y hy=>?_⟩
    rcases B3.1 hy with rfl|hy
    ·exact ⟨a,Iy,ha⟩
    obtain ⟨e,he,hp⟩:=h2 y hy
    exact ⟨e,K7 _ he,hp⟩
theorem tj {c:List Col} {l:List Expr} {m:Nat} (hl:∀e∈l,okE (m+1) e) (hc:c.length=l.length):∀(n:Nat) (x y:Expr),okE n x→putF c l x=some y→okE (m+1+n) y
 | 0,x,y,h,_=>h.elim
 | n+1,x,y,h,hp=>by
  cases h2:x.op==2 with
  | true =>
   rw [Ye h2] at hp
   split at hp
   ·cases hp
   rename_i hf
   injection hp with hp
   subst hp
   obtain ⟨j,hj,hjl⟩:=Fl hf
   rw [hj,Int.toNat_natCast,Cq,Ac (by omega)]
   exact Fq (by omega) (hl _ (As (by omega)))
  | false =>
   rw [Yf h2] at hp
   cases hk:Kp c l x.kids with
   | none=>rw [hk] at hp;cases hp
   | some s =>
    rw [hk] at hp
    injection hp with hp
    subst hp
    obtain ⟨h3,h4⟩:=Rs hk
    refine ⟨h.1,by show s.length≤_;rw [h3];exact h.2.1,fun z hz=>?_⟩
    obtain ⟨e,he,hpe⟩:=h4 z hz
    exact tj hl hc n e z (h.2.2 e he) hpe
theorem AIg {x:Expr} {c:List Col} {l:List Expr} (h:((((!(Bc x)) || l.any Fy) || !(Pc c)) || ((c.length:Int) != (l.length:Int)))=true):Dr x c l=(Aw,1):=if_pos h
theorem AIh {x:Expr} {c:List Col} {l:List Expr} (h:((((!(Bc x)) || l.any Fy) || !(Pc c)) || ((c.length:Int) != (l.length:Int)))=false):Dr x c l=match putF c l x with
  | none=>(Aw,9)
  | some y=>if Bc y then (y,0) else (Aw,3):=if_neg (by rw [h];simp)
theorem c78 (x:Expr) (hok:okE 61 x) (c:List Col) (hc:OkCols c) (l:List Expr) (hll:l.length≤1048576) (hlo:∀e∈l,okE 61 e) (Hp:List AObj):AFun Tryz.prog 78 [A7 x,Ai c,Bd l] Hp (.tup [A7 (Dr x c l).1,A4 (Dr x c l).2]):=by
 refine Ah [.cell 6 27,.tmp 7] [0,1,2] Tryz.func78 Tryz.ntmps78 (fun d=>?_)
 refine ec ?_;refine n8 ?_;refine Z25 ?_;refine Aa Tryz.call96 (c96 61 x hok (by decide) _) ?_;refine Z95 ?_;refine Bm Tryz.call123 (fun hB=>APb l hll hlo _) ?_;refine Z95 ?_;refine Bm Tryz.call50 (fun hB=>c50 c hc _) ?_;refine B7 ?_;refine Z52 ?_;refine Z80 ?_;refine A2 [1,2,3,6,28] ?_
 refine A3 (fun ht28=>?_) (fun ht28=>?_)
 ·simp only [Ag] at ht28
  have hm:=AIg ht28
  refine AD1 ?_;refine Fx 0 5 6 ?_;exact Z84
 simp only [Ag] at ht28
 have hm0:=AIh ht28
 have hcl:c.length=l.length:=by simp only [Dn,bne_eq_false_iff_eq] at ht28;have:=ht28.2;omega
 refine Rc ?_;refine Aa Tryz.call124 (APh c hc l hcl 61 x hok _) ?_;refine Qf ?_;refine A2 [6,8,9] ?_;refine Z13 ?_;refine Z16 ?_;refine A2 [6,8,37] ?_
 refine A3 (fun ht37=>?_) (fun ht37=>?_)
 ·have hp:putF c l x=none:=by simpa using ht37
  have hm:Dr x c l=(Aw,9):=by rw [hm0,hp]
  refine AD1 ?_;refine Fx 0 5 6 ?_;refine Z26 ?_;exact AJf
 obtain ⟨y,hp⟩:∃y,putF c l x=some y:=by
  cases h:putF c l x with
  | none=>rw [h] at ht37;cases ht37
  | some y=>exact ⟨y,rfl⟩
 have hyo:okE 122 ((putF c l x).getD Aw):=by rw [hp];exact tj (m:=60) hlo hcl 61 x y hok hp
 refine Z2 ?_;refine Aa Tryz.call96 (c96 122 ((putF c l x).getD Aw) hyo (by decide) _) ?_;refine Z0 ?_;refine A2 [6,8,41] ?_
 refine A3 (fun ht41=>?_) (fun ht41=>?_)
 ·have hm:Dr x c l=(Aw,3):=by
   rw [hp] at ht41
   rw [hm0,hp]
   exact if_neg (by simpa using ht41)
  refine AD1 ?_;refine Fx 0 5 6 ?_;refine Z26 ?_;exact AJf
 have hm:Dr x c l=(y,0):=by
  rw [hp] at ht41
  rw [hm0,hp]
  exact if_pos (by simpa using ht41)
 refine Z47 ?_;refine Z42 ?_;refine ef ?_;exact A9 (B9 (B5 jA jS) A8) ⟨by rw [hm,hp];show _=AV.tup [A7 y,A4 0];rw [Al];rfl,rfl⟩ (hlow:=by simp [or_imp,forall_and,Am])

/-! fuse.Forth and plan.Text. -/
def Be (c:List Col) (ms:List Mov):Nat→List Expr
 | 0=>L7 c
 | k+1=>match ms[k]? with
  | some m=>E0 m.take (colsAt c ms k) (Be c ms k)++(C3 (colsAt c ms k) (Be c ms k) m.ahead).1
  | none=>Be c ms k
def Jc (c:List Col) (t:List Expr):List Mov→List Expr×Int
 | []=>(t,0)
 | m::r=>if (C3 c t m.ahead).2 != 0 then ([],(C3 c t m.ahead).2) else Jc (Ba c m).1 (E0 m.take c t++(C3 c t m.ahead).1) r
/-- fuse.Forth. -/
def Es (c:List Col) (l:List Mov):List Expr×Int:=if (Cg c l).2 != 0 then ([],1) else Jc c (L7 c) l
def M2 (c:List Col) (ms:List Mov) (k:Nat):Prop:=Jc c (L7 c) ms=Jc (colsAt c ms k) (Be c ms k) (ms.drop k)
theorem AIi {c:List Col} {ms:List Mov}:M2 c ms 0:=rfl
theorem ga {c:List Col} {ms:List Mov} {k:Nat} {m:Mov} (hk:ms[k]? = some m) (h:M2 c ms k) (he:((C3 (colsAt c ms k) (Be c ms k) m.ahead).2 != 0)=false):M2 c ms (k+1):=by
 unfold M2 at h ⊢
 rw [h,Ko hk,Jc,if_neg (by rw [he];simp),Fh hk,Be,hk]
theorem qi {c:List Col} {ms:List Mov} {k:Nat} {m:Mov} (hk:ms[k]? = some m) (h:M2 c ms k) (he:((C3 (colsAt c ms k) (Be c ms k) m.ahead).2 != 0)=true):Jc c (L7 c) ms=([],(C3 (colsAt c ms k) (Be c ms k) m.ahead).2):=by
 unfold M2 at h
 rw [h,Ko hk,Jc,if_pos he]
theorem qj {c:List Col} {ms:List Mov} (h:M2 c ms ms.length):Jc c (L7 c) ms=(Be c ms ms.length,0):=by
 unfold M2 at h
 rw [h,me,Jc]
/-- Trees that may be walked, printed and put again. -/
structure TOk (t:List Expr):Prop where
 ok:∀e∈t,okE 61 e
 rng:∀e∈t,F7 Lv e=true
theorem Li {take:List Str}:∀{c:List Col} {l:List Expr},∀e∈E0 take c l,e∈l
 | [],[],e,h=>by cases h
 | [],_::_,e,h=>by cases h
 | _::_,[],e,h=>by cases h
 | y::c,x::l,e,h=>by
  unfold E0 at h
  split at h
  ·exact K7 _ (Li e h)
  rcases B3.1 h with rfl|h
  ·exact Iy
  exact K7 _ (Li e h)
theorem l9 {c:List Col} {l:List Expr} (hl:∀e∈l,F7 Lv e=true) (hc:c.length=l.length):∀(n:Nat) (x y:Expr),okE n x→F7 Lv x=true→putF c l x=some y→F7 Lv y=true
 | 0,x,y,h,_,_=>h.elim
 | n+1,x,y,h,hr,hp=>by
  cases h2:x.op==2 with
  | true =>
   rw [Ye h2] at hp
   split at hp
   ·cases hp
   rename_i hf
   injection hp with hp
   subst hp
   obtain ⟨j,hj,hjl⟩:=Fl hf
   rw [hj,Int.toNat_natCast,Cq,Ac (by omega)]
   exact hl _ (As (by omega))
  | false =>
   rw [Yf h2] at hp
   cases hk:Kp c l x.kids with
   | none=>rw [hk] at hp;cases hp
   | some s =>
    rw [hk] at hp
    injection hp with hp
    subst hp
    obtain ⟨h3,h4⟩:=Rs hk
    rw [Ht,Az] at hr
    rw [Ht,Az]
    refine ⟨hr.1,(J7 _ _).2 fun z hz=>?_⟩
    obtain ⟨e,he,hpe⟩:=h4 z hz
    exact l9 hl hc n e z (h.2.2 e he) ((J7 _ _).1 hr.2 e he) hpe
theorem la {x:Expr} {c:List Col} {l:List Expr} (hx:okE 61 x) (hr:F7 Lv x=true) (ht:TOk l) (he:(Dr x c l).2=0):okE 61 (Dr x c l).1∧F7 Lv (Dr x c l).1=true∧Bc (Dr x c l).1=true:=by
 unfold Dr at he ⊢
 split at he
 ·exact absurd (show (1:Int)=0 from he) (by decide)
 rename_i h1
 rw [if_neg h1]
 have hcl:c.length=l.length:=by
  simp only [Ol,Dn,bne_eq_false_iff_eq] at h1
  have:=h1.2
  omega
 cases hp:putF c l x with
 | none=>rw [hp] at he;exact absurd (show (9:Int)=0 from he) (by decide)
 | some y =>
  rw [hp] at he
  simp only at he ⊢
  split at he
  ·rename_i h2
   rw [if_pos h2]
   have h3:B2 y=true:=by rw [←D6];exact h2
   exact ⟨Fq (by decide) (Hw h3).1,l9 ht.rng hcl 61 x y hx hr hp,h2⟩
  exact absurd (show (3:Int)=0 from he) (by decide)
theorem Qd {c:List Col} {t:List Expr} (ht:TOk t):∀(l:List Expr),(∀e∈l,okE 61 e)→(∀e∈l,F7 Lv e=true)→(C3 c t l).2=0→TOk (C3 c t l).1
 | [],_,_,_=>⟨fun e h=>(Ed h).elim,fun e h=>(Ed h).elim⟩
 | x::r,h1,h2,he=>by
  unfold C3 at he ⊢
  split at he
  ·rename_i h3
   exact absurd he (by simpa using h3)
  rename_i h3
  rw [if_neg h3]
  split at he
  ·rename_i h4
   exact absurd he (by simpa using h4)
  rename_i h4
  rw [if_neg h4]
  have ih:=Qd (c:=c) ht r (fun e he=>h1 e (K7 _ he)) (fun e he=>h2 e (K7 _ he)) (by simpa using h4)
  have hx:=la (c:=c) (h1 x Iy) (h2 x Iy) ht (by simpa using h3)
  refine ⟨fun e he=>?_,fun e he=>?_⟩
  ·rcases B3.1 he with rfl|he
   ·exact hx.1
   exact ih.ok e he
  rcases B3.1 he with rfl|he
  ·exact hx.2.1
  exact ih.rng e he
theorem Yh {c:List Col} (hc:OkCols c):TOk (L7 c):=by
 refine ⟨fun e he=>?_,fun e he=>?_⟩
 ·obtain ⟨y,hy,rfl⟩:=Cj.1 he
  exact ⟨hc.2 y hy,by simp [Bo,Expr.kids],fun z hz=>by simp [Bo,Expr.kids] at hz⟩
 obtain ⟨y,hy,rfl⟩:=Cj.1 he
 rfl
/-- What holds of the trees behind k moves, if all went well till there. -/
theorem gb {c:List Col} {ms:List Mov} {k:Nat} {m:Mov} (hk:ms[k]? = some m) (hm:OkMov m) (h:TOk (Be c ms k)) (he:((C3 (colsAt c ms k) (Be c ms k) m.ahead).2 != 0)=false):TOk (Be c ms (k+1)):=by
 have h1:=Qd (c:=colsAt c ms k) h m.ahead hm.ahead.ok hm.ahead.rng (by simpa using he)
 rw [Be,hk]
 refine ⟨fun e he=>?_,fun e he=>?_⟩
 ·rcases Ds.1 he with he|he
  ·exact h.ok e (Li e he)
  exact h1.ok e he
 rcases Ds.1 he with he|he
 ·exact h.rng e (Li e he)
 exact h1.rng e he
theorem Pp {c:List Col} {m:Mov} (h:(Ba c m).2=0):(Ba c m).1=Cd c m.take++Bf c m∧Cx c=true∧Cx (Ba c m).1=true:=by
 unfold Ba at h ⊢
 split at h
 ·rename_i h1
  exact AHe
 rename_i h1
 rw [if_neg h1]
 split at h
 ·rename_i h2
  exact absurd h (by simpa using h2)
 rename_i h2
 rw [if_neg h2]
 split at h
 ·rename_i h3
  exact absurd h (by simpa using h3)
 rename_i h3
 rw [if_neg h3]
 obtain ⟨a,_,b,d,e⟩:=sj (by simpa using h1:(D9 c m.take (Bf c m)).2=0)
 rw [e]
 refine ⟨rfl,a,?_⟩
 unfold Cx
 rw [b,Tf]
 refine decide_eq_true ?_
 show ((Cd c m.take++Bf c m).length:Int)≤12
 omega
theorem Yi {c:List Col} {ms:List Mov} {k:Nat} {m:Mov} (hk:ms[k]? = some m) (hm:Fs m=true) (ht:(Ba (colsAt c ms k) m).2=0) (h:(Be c ms k).length=(colsAt c ms k).length) (he:((C3 (colsAt c ms k) (Be c ms k) m.ahead).2 != 0)=false):(Be c ms (k+1)).length=(colsAt c ms (k+1)).length:=by
 rw [Be,Fh hk,hk]
 show (E0 _ _ _++_).length=_
 rw [(Pp ht).1,Ax,Ax,It,Lh h.symm,M1 _ (by simpa using he),(Gm (Lg hm)).1]
/-! The text. -/
theorem K4 {n k:Nat} {o:Bool} {a:List Expr} {e:Expr}:Low n (.slice o k (a.map A7++[.agg (D0 e)])):=by
 have:=Iq (n:=n) (k:=k) (o:=o) (a:=a) (e:=e)
 rwa [Al] at this
theorem Qe {c:List Col} {t:List Expr}:∀{l:List Expr},(∀(j:Nat) (y:Expr),l[j]? = some y→((Dr y c t).2 != 0)=false)→C3 c t l=(l.map (fun e=>(Dr e c t).1),0)
 | [],_=>rfl
 | x::r,h=>by
  have h1:=h 0 x rfl
  have ih:=Qe (c:=c) (t:=t) (l:=r) (fun j y hy=>h (j+1) y hy)
  rw [C3,if_neg (by rw [h1];simp),if_neg (by rw [ih];simp),ih]
  rfl
theorem N7 {c:List Col} {t:List Expr}:∀{l:List Expr} {x:Nat} {y:Expr},(∀(j:Nat) (z:Expr),j<x→l[j]? = some z→((Dr z c t).2 != 0)=false)→l[x]? = some y→((Dr y c t).2 != 0)=true→C3 c t l=([],(Dr y c t).2)
 | [],_,_,_,h,_=>by simp at h
 | a::r,0,y,h0,h,h1=>by
  have:a=y:=by simpa using h
  subst this
  rw [C3,if_pos h1]
 | a::r,x+1,y,h0,h,h1=>by
  have h2:=h0 0 a (by omega) rfl
  have ih:=N7 (c:=c) (t:=t) (l:=r) (x:=x) (y:=y) (fun j z hj hz=>h0 (j+1) z (by omega) hz) (by simpa using h) h1
  rw [C3,if_neg (by rw [h2];simp),if_pos (by rw [ih];exact h1),ih]
theorem c75 (l:List Expr) (hl:l.length≤1048576) (hlo:∀e∈l,okE 61 e) (c:List Col) (hc:OkCols c) (by_:List Expr) (hbl:by_.length≤1048576) (hbo:∀e∈by_,okE 61 e) (Hp:List AObj):AFun Tryz.prog 75 [Bd l,Ai c,Bd by_] Hp (.tup [Bd (C3 c by_ l).1,A4 (C3 c by_ l).2]):=by
 refine Ah [.tmp 6,.tmp 7] [0,1,2] Tryz.func75 Tryz.ntmps75 (fun d=>?_)
 refine Z1 ?_;refine en ?_;refine Z2 ?_;refine A2 [0,1,2,8] ?_;refine Z53 ?_;refine Tr 8 6 ?_;refine Z8 ?_;refine A2 [1,2,8,13,14,15] ?_
 refine Bg (α:=Nat) (fun x=>⟨35,A6 1 (Ai c) (A6 2 (Bd by_) (A6 8 (.slice true 6 (((l.take x).map (fun e=>(Dr e c by_).1)).map A7)) (A6 13 (Bd l) (A6 14 (A4 (l.length:Nat)) (A6 15 (A4 (x:Nat)) (fun _=>.any)))))),Hp,[],[],none⟩) (fun x=>x≤l.length∧∀(j:Nat) (y:Expr),j<x→l[j]? = some y→((Dr y c by_).2 != 0)=false) (fun x=>l.length-x) (0) ⟨Ao _,fun j y h=>by omega⟩ (B4 (by simp)) rfl (fun x hx=>?_)
 refine Z2 ?_;refine A2 [1,2,8,13,14,15,16] ?_
 refine E2 (fun ht16=>?_) (fun ht16=>?_)
 ·have hlt:x<l.length:=by simpa using ht16
  refine Tt ?_
  refine A5 (h:=Ad (x) (A7 l[x]) (fun _=>Ar hlt)) (hr:=?_)
  refine Si ?_;refine A2 [1,2,8,10,13,14,15] ?_;refine Z16 ?_;refine Aa Tryz.call78 (c78 l[x] (hlo _ (As hlt)) c hc by_ hbl hbo _) ?_;refine Qf ?_;refine A2 [1,2,8,11,12,13,14,15] ?_;refine Z7 ?_;refine A2 [1,2,8,11,12,13,14,15,27] ?_
  refine A3 (fun ht27=>?_) (fun ht27=>?_)
  ·have hm:=N7 hx.2 (Ac hlt) ht27
   refine Z1 ?_;refine R.nilTmp 6 6 false ?_;refine Z76 ?_;exact ACw
  refine vl ?_
  refine D5 jU Tryz.type27 ?_ ?_ ?_
  ·simp only [Ag,Bx,B8,Bq,Tryz.t27];omega
  ·simp only [Ag,Bx,B8,Bq,Tryz.t27];omega
  refine Kk ?_;refine A2 [1,2,8,13,14,15] ?_;refine X0 ?_;refine A2 [1,2,8,13,14,15] ?_;refine Au (x+1) ⟨hlt,Bw hlt hx.2 ht27⟩ (by omega) ?_
  rw [Iu hlt,Bn]
  rw [Br,Ct,Al]
  simp only [show Tryz.t27.size=6 from rfl]
  exact Di (own:=[]) (fun _=>.refl _) (by repeat (first|exact Bt|refine Bs (by first|(simp [or_imp,forall_and];done)|exact K4|exact Cr|exact Dq) ?_)) (by simp) (by simp)
 have hxe:l.length≤x:=by simpa using ht16
 have hm:C3 c by_ l=(l.map (fun e=>(Dr e c by_).1),0):=Qe fun j y hy=>hx.2 j y (by have:=(Ae.1 hy).1;omega) hy
 refine Z17 ?_;refine Z16 ?_;refine A2 [6,7] ?_;refine El ?_;exact A9 (B9 A8 A8) ⟨by rw [hm,Cu hxe],rfl⟩ (hlow:=by simp only [Ni,B3,Dt,or_false];rintro y (rfl|rfl);exact Cr;simp)

theorem c76 (m:Mov) (c:List Col) (l:List Expr) (Hp:List AObj):AFun Tryz.prog 76 [G5 m,Ai c,Bd l] Hp (.fn (.func 122) [] [.ro [Ai c],.ro (Io m),.ro [Bd l]]):=by
 refine Ah [.tmp 6] [0,1,2] Tryz.func76 Tryz.ntmps76 (fun d=>?_)
 refine Z34 ?_;refine A2 [3,4,5] ?_;refine zt ?_;refine Z92 ?_;exact A9 (Aj A8) (hlow:=by simp [or_imp,forall_and,Am])

theorem ql {take:List Str} {c:List Col} {l:List Expr} {k:Nat} {y:Col} (hcl:c.length=l.length) (hy:c[k]? = some y) (h:take.contains y.name=true):E0 take (c.take (k+1)) (l.take (k+1))=E0 take (c.take k) (l.take k):=by
 induction c generalizing l k with
 | nil=>simp at hy
 | cons a r ih =>
  cases l with
  | nil=>simp at hcl
  | cons b s =>
   cases k with
   | zero =>
    have:a=y:=by simpa using hy
    subst this
    simp only [List.take_succ_cons,List.take_zero]
    rw [E0,if_pos h]
   | succ k =>
    have ih':=ih (l:=s) (k:=k) (by simpa using hcl) (by simpa using hy)
    rw [List.take_succ_cons,List.take_succ_cons,List.take_succ_cons,List.take_succ_cons,E0,E0,ih']
theorem ABv {take:List Str} {c:List Col} {l:List Expr} {k:Nat} {y:Col} {e:Expr} (hcl:c.length=l.length) (hy:c[k]? = some y) (he:l[k]? = some e) (h:take.contains y.name=false):E0 take (c.take (k+1)) (l.take (k+1))=E0 take (c.take k) (l.take k)++[e]:=by
 induction c generalizing l k with
 | nil=>simp at hy
 | cons a r ih =>
  cases l with
  | nil=>simp at hcl
  | cons b s =>
   cases k with
   | zero =>
    have h1:a=y:=by simpa using hy
    have h2:b=e:=by simpa using he
    subst h1
    subst h2
    simp only [List.take_succ_cons,List.take_zero]
    rw [E0,if_neg (by rw [h];simp)]
    rfl
   | succ k =>
    have ih':=ih (l:=s) (k:=k) (by simpa using hcl) (by simpa using hy) (by simpa using he)
    rw [List.take_succ_cons,List.take_succ_cons,List.take_succ_cons,List.take_succ_cons,E0,E0,ih']
    split<;>rfl
theorem qm {n:Nat} {m:Mov}:Low n (.ro (Io m)):=by
 refine .ro _ fun y hy=>?_
 simp only [B3,Dt,or_false] at hy
 rcases hy with rfl|rfl|rfl|rfl|rfl
 ·exact .v _
 ·exact x7
 ·exact Dq
 ·exact Cr
 exact Cr
theorem APi (l0:Nat) (m:Mov) (c:List Col) (l:List Expr) (hc:c.length≤1048576) (hcl:c.length=l.length) (ht:m.take.length≤1048576) (U:Nat→List AObj) (hlen:∀k,(U k).length=(U 0).length) (hll:l0<(U 0).length)
  (hlw:∀k,∀x∈U k,ObjLow (U 0).length x) (hn:∀k y,c[k]? = some y→m.take.contains y.name=true→U (k+1)=U k)
  (hy:∀k y e X,c[k]? = some y→l[k]? = some e→m.take.contains y.name=false→AYield Tryz.prog l0 [A7 e] (U k++X) (fun b H'=>b=true∧H'=U (k+1)++X)):ACall Tryz.prog 122 [.yield l0,.ro [Ai c],.ro (Io m),.ro [Bd l]] (U 0) (fun _ H'=>H'=U c.length):=by
 refine Ah [] [0,1,2,3] Tryz.func122 Tryz.ntmps122 (fun d=>?_)
 refine Z16 ?_;refine A2 [0,2,3,7,8,9] ?_
 refine Bg (α:=Nat) (fun x=>⟨30,A6 0 (.yield l0) (A6 2 (.ro (Io m)) (A6 3 (.ro [Bd l]) (A6 7 (Ai c) (A6 8 (A4 (c.length:Nat)) (A6 9 (A4 (x:Nat)) (fun _=>.any)))))),U x,[],[],none⟩) (fun x=>x≤c.length) (fun x=>c.length-x) (0) (Ao _) (B4 (by simp)) rfl (fun x hx=>?_)
 refine Z2 ?_;refine A2 [0,2,3,7,8,9,10] ?_
 refine E2 (fun ht10=>?_) (fun ht10=>?_)
 ·have hlt:x<c.length:=by simpa using ht10
  have hle:x<l.length:=by omega
  refine X1 ?_
  refine A5 (h:=Ad (x) (Bl c[x]) (fun _=>Ar hlt)) (hr:=?_)
  refine A5 ?_;refine iq ?_;refine A2 [0,2,3,5,6,7,8,9] ?_;refine Z34 ?_;refine Aa Tryz.call95 (c95 m.take _ ht _) ?_;refine Z67 ?_
  refine B7 (h:=Ad (x) (A7 l[x]) (fun _=>Ar hle)) (hr:=?_)
  refine B7 ?_
  refine G.yield (l:=l0) (C:=((!m.take.contains c[x].name)==true)) (args:=[A7 l[x]]) (fun hC=>hy x c[x] _ _ (Ac hlt) (Ac hle) (by simpa using hC)) ?_
  intro b V O hV hb hb0
  have hVO:V=U (x+1)∧O=[AObj.cells 69 [Ab c[x].name,A4 c[x].kind]]∧(m.take.contains c[x].name=false→b=true):=by
   cases hcn:m.take.contains c[x].name with
   | true =>
    obtain ⟨h1,h2⟩:=hb0 (by rw [hcn];rfl)
    exact ⟨h1.trans (hn x c[x] (Ac hlt) hcn).symm,h2,fun e=>by cases e⟩
   | false =>
    obtain ⟨h1,h2⟩:=hb (by rw [hcn];rfl)
    have h3:=Qy h2 (by rw [hV,hlen x,hlen (x+1)])
    exact ⟨h3.1,h3.2,fun _=>h1⟩
  obtain ⟨rfl,rfl,hbt⟩:=hVO
  refine ⟨fun _=>by rw [hlen (x+1)];exact hlw (x+1),fun o ho=>(by cases ho),?_⟩
  refine Z80 ?_;refine A2 [0,2,3,7,8,9,28] ?_
  refine A3 (fun ht28=>?_) (fun ht28=>?_)
  ·exfalso
   have hcf:m.take.contains c[x].name=false:=by simp at ht28 ⊢;exact ht28.1
   rw [hbt hcf] at ht28
   simp at ht28
  refine Ra ?_;refine A2 [0,2,3,7,8,9] ?_;refine Au (x+1) hlt (by omega) ?_
  exact Di (own:=[]) (fun _=>.refl _) (by repeat (first|exact Bt|refine Bs (by first|(simp [or_imp,forall_and];done)|exact qm|(simp [or_imp,forall_and,Am];done)|(have:=hlen (x+1);simp;omega)) ?_)) (by simp) (by simp)
 have hxe:x=c.length:=by simp at ht10;omega
 exact AKs

/-! ONE LINE EACH. -/
theorem qn {c:List Col} {ms:List Mov} (he:(C2 c ms).2=0):∀k,k≤ms.length→NS c ms k
 | 0,_=>AEl
 | k+1,h=>by
  have ih:=qn he k (by omega)
  have hk:ms[k]? = some ms[k]:=Ac (by omega)
  by_cases ht:(Ba (colsAt c ms k) ms[k]).2=0
  ·exact W7 hk ih ht
  exact absurd ((g7 hk ih ht).symm.trans he) ht
theorem Sz {c:List Col} {ms:List Mov} (he:(C2 c ms).2=0) {k:Nat} {m:Mov} (hk:ms[k]? = some m):(Ba (colsAt c ms k) m).2=0:=by
 have hl:=(Ae.1 hk).1
 by_cases ht:(Ba (colsAt c ms k) m).2=0
 ·exact ht
 exact absurd ((g7 hk (qn he k (by omega)) ht).symm.trans he) ht
theorem Jd {c:List Col} {ms:List Mov}:∀{n k:Nat},k≤n→(C7 c ms n)[k]? = some (colsAt c ms k)
 | 0,k,h=>by
  have:k=0:=by omega
  subst this;rfl
 | n+1,k,h=>by
  have hl:=Gt c ms n
  rw [C7]
  by_cases e:k=n+1
  ·subst e
   rw [Dx (by omega),hl,S8]
   rfl
  rw [Dw (by omega)]
  exact Jd (by omega)
theorem Lj {c:List Col} {ms:List Mov} (h:K3 c ms=true):∀m∈ms,Fs m=true:=by
 unfold K3 Oi at h
 simp only [Az,B1] at h
 exact h.2.2
theorem O0 {c:List Col} {ms:List Mov} (hc:Cx c=true) (he:(C2 c ms).2=0):∀k,Cx (colsAt c ms k)=true
 | 0=>hc
 | k+1=>by
  cases hk:ms[k]? with
  | none =>
   rw [colsAt,hk]
   exact O0 hc he k
  | some m =>
   rw [Fh hk]
   exact (Pp (Sz he hk)).2.2
/-- What a sound migration comes to. -/
theorem K5 {c:List Col} {ms:List Mov} (h:((Cg c ms).2 != 0)=false):K3 c ms=true∧(C2 c ms).2=0∧Cg c ms=(C7 c ms ms.length,0):=by
 cases hm:K3 c ms with
 | false=>rw [bu hm] at h;cases h
 | true =>
  by_cases he:(C2 c ms).2=0
  ·have e:=g8 (qn he ms.length (An _))
   exact ⟨rfl,he,bv hm e⟩
  rw [Yc hm he] at h
  exact absurd (by simpa using h) he
theorem Uk {c:List Col} {ms:List Mov} (h:((Cg c ms).2 != 0)=false):Ec c ms=(colsAt c ms ms.length,0):=by
 obtain ⟨_,_,e⟩:=K5 h
 unfold Ec
 rw [if_neg (by rw [h];simp),e]
 show ((C7 c ms ms.length).getLastD [],_)=_
 rw [yo,List.getLast?_eq_getElem?,Gt]
 have:=Jd (c:=c) (ms:=ms) (n:=ms.length) (An _)
 rw [show ms.length+1-1=ms.length from rfl,this]
 rfl
theorem ABw {n:Nat} {m:Mov} {t:TypeId}:ObjLow n (.cells t (Io m)):=Qb
theorem ABx {c:List Col} {l:List Mov} (h:((Cg c l).2 != 0)=true):Es c l=([],1):=if_pos h
theorem Ul {c:List Col} {l:List Mov} (h:((Cg c l).2 != 0)=false):Es c l=Jc c (L7 c) l:=if_neg (by rw [h];simp)
theorem lb {c:List Col} {ms:List Mov} {k:Nat} {m:Mov} (h:ms[k]? = some m):Bd (Be c ms (k+1))=.slice false 6 ((E0 m.take (colsAt c ms k) (Be c ms k)).map A7++(C3 (colsAt c ms k) (Be c ms k) m.ahead).1.map A7):=by
 rw [Be,h,←Bn]
theorem c32 (c:List Col) (hc:OkCols c) (hc2:c.length≤1000000) (l:List Mov) (h:OkMovs l) (Hp:List AObj):AFun Tryz.prog 32 [Ai c,Dm l] Hp (.tup [Bd (Es c l).1,A4 (Es c l).2]):=by
 refine Ah [.tmp 4,.tmp 5] [0,1] Tryz.func32 Tryz.ntmps32 (fun d=>?_)
 refine vh ?_;refine AH5 ?_;refine Z82 ?_;refine A2 [0,1,6,7] ?_;refine Z7 ?_;refine A2 [0,1,6,22] ?_
 refine A3 (fun ht22=>?_) (fun ht22=>?_)
 ·have hm:=ABx ht22
  refine Z2 ?_;refine zf ?_;exact Z70
 have hm:=Ul ht22
 obtain ⟨hmay,hst,hss⟩:=K5 ht22
 have hmvo:=Lj hmay
 rw [hss]
 refine Of ?_;refine Aa Tryz.call74 (c74 c (by omega) _) ?_;refine A5 ?_;refine A2 [1,6,8] ?_;refine Z30 ?_;refine A2 [6,8,25,26,27] ?_
 refine AW.loopG (α:=Nat×List AObj×List Nat) (fun s=>⟨65,A6 6 (Lz (C7 c l l.length)) (A6 8 (Bd (Be c l s.1)) (A6 25 (Dm l) (A6 26 (A4 (l.length:Nat)) (A6 27 (A4 (s.1:Nat)) (fun _=>.any))))),Hp,s.2.1,s.2.2,none⟩) (fun s=>s.1≤l.length∧M2 c l s.1∧TOk (Be c l s.1)∧(Be c l s.1).length=(colsAt c l s.1).length∧(∀x∈s.2.1,ObjLow (Hp.length+s.2.1.length) x)∧∀o∈s.2.2,(Hp++s.2.1)[o]? = some .defs) (fun s=>l.length-s.1) ((0,[],[])) ⟨Ao _,AIi,Yh hc,by simp [Be,L7,colsAt],(fun x hx=>(Ed hx).elim),fun o ho=>(Ed ho).elim⟩ (B4 (by simp [Be])) rfl (fun s hs=>?_)
 obtain ⟨k,O,Df⟩:=s
 obtain ⟨hk0,hnf,hTo,hTl,hOo,hDo⟩:=hs
 dsimp only at hk0 hnf hTo hTl hOo hDo ⊢
 refine Z2 ?_;refine A2 [6,8,25,26,27,28] ?_
 refine E2 (fun ht28=>?_) (fun ht28=>?_)
 ·have hlt:k<l.length:=by simpa using ht28
  have hll:=h.len
  have hmk:l[k]? = some l[k]:=Ac hlt
  have hmo:=h.each _ (As hlt)
  have hCo:=Ez hc (fun m hm=>h.each m hm) k
  refine X1 ?_
  refine A5 (h:=Ad (k) (G5 l[k]) (fun _=>Ar hlt)) (hr:=?_)
  refine A5 ?_;refine R.alloc (n:=O.length) (ho:=rfl) jZ ?_;refine A5 ?_
  refine dt (n:=O.length+0) (ho:=oat.trans rfl) (hset:=by rw [zb]<;>simp only [List.set_cons_succ,List.set_cons_zero]<;>rfl) jS ?_
  refine A2 [6,8,9,10,25,26,27] ?_;refine Er [0,1,0,0,12,28,0,127,255,511,511,1023,4095] 12 Ap (by kernel_rfl) ?_;refine Av ?_
  refine Av (h:=Q.loadOwn (n:=O.length+0) (ho:=oat.trans rfl)) (hr:=?_)
  refine Z10 ?_
  refine Av (h:=Ad (k) (Ai (colsAt c l k)) (fun _=>qd (Jd (by omega)))) (hr:=?_)
  refine Z10 ?_
  refine I3 Tryz.call75 (c75 l[k].ahead hmo.ahead.len hmo.ahead.ok (colsAt c l k) hCo (Be c l k) (by have:=hCo.1;omega) hTo.ok _) ?_
  refine Rb ?_;refine ee ?_;refine A2 [6,8,9,10,11,12,25,26,27] ?_;refine Z7 ?_;refine A2 [6,8,9,10,11,12,25,26,27,44] ?_
  refine A3 (fun ht44=>?_) (fun ht44=>?_)
  ·have hm2:=qi hmk hnf ht44
   refine Z1 ?_;refine zf ?_;refine Z41 ?_;refine Z6 ?_;refine K.lgR ?_;refine Gg ?_;exact ALc
  refine ir ?_
  refine R.alloc (n:=O.length+1) (hn:=by simp) (ho:=by simp only [Bp,E8,E3]<;>rfl) jZ ?_
  refine Ts (O.length+1) 6 ?_ (ho:=oat.trans rfl) (hset:=by rw [zb]<;>simp only [List.set_cons_succ,List.set_cons_zero]<;>rfl)
  refine Mm (fun hlow=>?_)
  refine A2 [6,8,9,10,11,13,25,26,27] ?_;refine Lq ?_;refine Er [0,0,0,6,14,0,63] 6 Ap (by kernel_rfl) ?_
  refine Av (h:=Q.loadOwnN (n:=O.length+0) (ho:=oat.trans rfl)) (hr:=?_)
  refine Z10 ?_
  refine Av (h:=Ad (k) (Ai (colsAt c l k)) (fun _=>qd (Jd (by omega)))) (hr:=?_)
  refine Z10 ?_;refine Hf ?_;refine Aa Tryz.call76 (c76 l[k] (colsAt c l k) (Be c l k) _) ?_;refine A2 [6,11,13,25,26,27,52] ?_;refine Ju ?_
  refine Nq (m:=O.length+2) (hm:=by simp) (ha:=rfl) Tryz.call122 (fun FR as' bd' hFR has hbd=>?_)
  generalize hCd:colsAt c l k=C at *
  generalize hTd:Be c l k=T at *
  generalize hmd:l[k]=m at *
  have hFRl:∀s,Low (Hp.length+(O.length+4)) (FR s):=by
   intro s
   rw [hFR]
   refine Ot ?_
   revert s
   repeat (first|exact Bt|refine Bs (by first|exact Cr|exact Iv|exact Kn|(simp [oid,or_imp,forall_and,Am];done)|(simp [oid,or_imp,forall_and]<;>try omega)) ?_)
  have hstl:∀q,(E0 m.take (C.take q) (T.take q)).length≤1048576:=fun q=>by
   have h1:=Lh (take:=m.take) (c:=C.take q) (l:=T.take q) (by simp [hTl])
   have h2:=F1 (C.take q) m.take
   have h3:=hCo.1
   rw [Bx] at h2
   omega
  have hOl:∀{j:Nat} {o:Bool} {lp:AObj},ObjLow (Hp.length+(O.length+4)) lp→∀x∈O++[AObj.cells 80 (Io m),AObj.cells 25 [AV.slice o 6 ((E0 m.take (C.take j) (T.take j)).map A7)],AObj.defs,lp],ObjLow (Hp.length+(O.length+4)) x:=by
   intro j o lp hlp x hx
   rcases Ds.1 hx with hx|hx
   ·exact Nv (by omega) (hOo x hx)
   simp only [B3,Dt,or_false] at hx
   rcases hx with rfl|rfl|rfl|rfl
   ·exact ABw
   ·intro y hy
    rw [Bh.1 hy]
    exact Cr
   ·trivial
   exact hlp
  refine ⟨_,ACall.heapEq (by rw [Bp];rfl) (APi (oid Hp.length (O.length+3)) m C T hCo.1 hTl.symm hmo.takes (fun j=>Hp++(O++[AObj.cells 80 (Io m),AObj.cells 25 [AV.slice true 6 ((E0 m.take (C.take j) (T.take j)).map A7)],AObj.defs,AObj.loop LoopState.ready none FR 65 #[53] as' bd' (oid Hp.length (O.length+2))])) (fun j=>by simp) (by simp [oid]) (fun j x hx=>?_) (fun j y hk hcn=>by simp only [ql hTl.symm hk hcn]) (fun q y e X hk hke hcn=>?_)),?_⟩
  ·have:=L4 (fun x hx=>Nv (by omega) (hlow x hx)) (hOl (o:=true) (lp:=AObj.loop LoopState.ready none FR 65 #[53] as' bd' (oid Hp.length (O.length+2))) ⟨hFRl,by simp [oid]⟩) x hx
   simpa using this
  ·generalize hV:Hp++(O++[AObj.cells 80 (Io m),AObj.cells 25 [AV.slice true 6 ((E0 m.take (C.take q) (T.take q)).map A7)],AObj.defs,AObj.loop LoopState.ready none FR 65 #[53] as' bd' (oid Hp.length (O.length+2))])++X=V
   have hL:V[(oid Hp.length (O.length+3))]? = some (AObj.loop LoopState.ready none FR 65 #[53] as' bd' (oid Hp.length (O.length+2))):=by rw [←hV,Bp,Bp,Sh];rfl
   have hA0:V[(oid Hp.length (O.length+1))]? = some (AObj.cells 25 [AV.slice true 6 ((E0 m.take (C.take q) (T.take q)).map A7)]):=by rw [←hV,Bp,Bp,Sh];rfl
   refine Nh (pd:=none) (fr:=FR) (sz:=65) (ps:=#[53]) (df:=(oid Hp.length (O.length+2))) (asg:=as') (bd:=bd') hL rfl (by decide) (fun d=>?_)
   subst hFR has hbd
   refine Ep [13,53] ?_;refine Og ?_;refine Z11 ?_;refine A2 [13,14] ?_
   refine ⟨rfl,none,hL,?_⟩
   generalize hbz:(AObj.loop LoopState.busy _ _ _ _ _ _ _)=bz
   have hA:(V.set (oid Hp.length (O.length+3)) bz)[(oid Hp.length (O.length+1))]? = some (AObj.cells 25 [AV.slice true 6 ((E0 m.take (C.take q) (T.take q)).map A7)]):=by rw [Cf (Do (by omega))];exact hA0
   refine Ju ?_
   refine W.drawT0 [0,0,1,0,15,31,63,31] [0] [.s [54] (some 0) [] [],.q 3 [] []] (fun B=>(V.set (oid Hp.length (O.length+3)) bz).set (oid Hp.length (O.length+1)) (if B 0=true then AObj.cells 25 [AV.slice false 6 ((E0 m.take (C.take q) (T.take q)).map A7)] else AObj.cells 25 [AV.slice true 6 ((E0 m.take (C.take q) (T.take q)).map A7)])) (fun _=>[.cells 27 (D0 e)]) Ap (by kernel_rfl) (by simp only [Ay,if_false];exact Co hA) rfl (fun B=>by simp) ?_
   refine R9 (o:=(oid Hp.length (O.length+1))) (t':=25) (cs:=[.slice true 6 ((E0 m.take (C.take q) (T.take q)).map A7)]) (cs':=[.slice false 6 ((E0 m.take (C.take q) (T.take q)).map A7)]) Tryz.isAgg25 (fun B hB=>⟨by simp only [hB];exact getset hA,by simp only [upd,if_true,C6],rfl⟩) ?_
   apply Y.q
   ·intro B hT hF
    refine Z10 ?_;exact Z40
   case hTF=>decide
   refine Y.appendPut3 (tn:=[0]) (U:=(V.set (oid Hp.length (O.length+3)) bz).set (oid Hp.length (O.length+1)) (AObj.cells 25 [AV.slice false 6 ((E0 m.take (C.take q) (T.take q)).map A7)])) (O:=[.cells 27 (D0 e)]) (o:=(oid Hp.length (O.length+1))) (t':=25) (cs:=[.slice false 6 ((E0 m.take (C.take q) (T.take q)).map A7)]) (by kernel_rfl) jU Tryz.type27 Tryz.sizeOf27 Tryz.sizeOf25 (Ak (getset hA)) ?_ ?_ ?_
   ·have:=hstl q;simp [Tryz.t27];omega
   ·have:=hstl q;simp [Tryz.t27];omega
   refine Hg jS (getset hA) ?_ ?_
   ·exact K4
   refine Z96 ?_
   subst hbz
   refine K.rdN (z9 hL (Do (by omega)) (Do (by omega))) ?_
   refine ⟨rfl,?_⟩
   subst hV
   simp only [Bp,zc,E8,E3,List.set_cons_succ,List.set_cons_zero]
   rw [ABv hTl.symm hk hke hcn,Bn,Br,Ct,Al]
  rintro r H' rfl
  simp only [M8,hTl ▸ M8]
  refine ⟨Hp,_,_,_,rfl,rfl,fun h=>h,?_,(oat (i:=3)).trans rfl,by simp,?_⟩
  ·intro o ho
   rcases B3.1 ho with rfl|ho
   ·rw [Sh]
    rfl
   rw [←Bp]
   exact Ak (hDo o ho)
  refine Z14 ?_
  refine ARun.ownEq (O++[AObj.cells 80 (Io m),AObj.cells 25 [AV.slice true 6 ((E0 m.take C T).map A7)],AObj.defs,AObj.loop LoopState.exhausted none FR 65 #[53] as' bd' (oid Hp.length (O.length+2))]) (by rw [show O.length+2+1=O.length+3 from rfl,zb]<;>rfl) ?_
  refine dr (n:=O.length+1) (ho:=oat.trans rfl) (hset:=by rw [zb]<;>simp only [List.set_cons_succ,List.set_cons_zero]<;>rfl) jA ?_
  refine A5 ?_
  refine D5 jU Tryz.type27 ?_ ?_ ?_
  ·have h1:=Lh (take:=m.take) hTl.symm;have h2:=F1 C m.take;have h3:=hCo.1;have h4:=M1 (c:=C) (by_:=T) m.ahead (by simpa using ht44);have h5:=hmo.ahead.len;simp only [Ag,Tryz.t27];omega
  ·have h1:=Lh (take:=m.take) hTl.symm;have h2:=F1 C m.take;have h3:=hCo.1;have h4:=M1 (c:=C) (by_:=T) m.ahead (by simpa using ht44);have h5:=hmo.ahead.len;simp only [Ag,Tryz.t27];omega
  refine R.wk 62 _ (.strip true 6 _) ?_;refine A5 ?_;refine A2 [6,8,25,26,27] ?_;refine X0 ?_;refine A2 [6,8,25,26,27] ?_
  have hlp:ObjLow (Hp.length+(O.length+4)) (AObj.loop LoopState.exhausted none FR 65 #[53] as' bd' (oid Hp.length (O.length+2))):=⟨hFRl,by simp [oid]⟩
  have hOn:=hOl (j:=C.length) (o:=false) hlp
  have hse:E0 m.take (C.take C.length) (T.take C.length)=E0 m.take C T:=by rw [M8,Cu (by omega)]
  rw [hse] at hOn
  refine K.lgN (k+1,O++[AObj.cells 80 (Io m),AObj.cells 25 [AV.slice false 6 ((E0 m.take C T).map A7)],AObj.defs,AObj.loop LoopState.exhausted none FR 65 #[53] as' bd' (oid Hp.length (O.length+2))],(oid Hp.length (O.length+2))::Df) ⟨hlt,?_,?_,?_,?_,?_⟩ (by dsimp only;omega) (Bk ?_) (by simp)
  ·subst hCd hTd hmd;exact ga hmk hnf ht44
  ·subst hCd hTd hmd;exact gb hmk hmo hTo ht44
  ·subst hCd hTd hmd;exact Yi hmk (hmvo _ (As hlt)) (Sz hst hmk) hTl ht44
  ·simpa using hOn
  ·intro o ho
   rcases B3.1 ho with rfl|ho
   ·dsimp only;rw [Sh];rfl
   dsimp only;rw [←Bp];exact Ak (hDo o ho)
  dsimp only
  rw [lb hmk,hCd,hTd]
  rfl
 have hke:k=l.length:=by simp at ht28;omega
 subst hke
 have hm2:=qj hnf
 refine K.lgE ?_;refine Gf ?_;refine Z16 ?_;exact AJd

/-! slices.Backward of moves. -/
theorem APj (l0:Nat) (ms:List Mov) (hml:ms.length≤1048576) (U:Nat→List AObj) (N:Nat→Prop) (Z:List AObj→Prop) (hlen:∀k,(U k).length=(U 0).length) (hll:l0<(U 0).length)
  (hlw:∀k,∀x∈U k,ObjLow (U 0).length x) (h0:N 0)
  (hy:∀k m X,k<ms.length→ms[ms.length-1-k]? = some m→N k→AYield Tryz.prog l0 [A4 ((ms.length-1-k:Nat):Int),G5 m] (U k++X) (fun b H'=>(b=true∧N (k+1)∧H'=U (k+1)++X)∨(b=false∧∃V,H'=V++X∧V.length=(U 0).length∧(∀x∈V,ObjLow (U 0).length x)∧Z V)))
  (hR:N ms.length→Z (U ms.length)):ACall Tryz.prog 129 [.yield l0,.ro [Dm ms]] (U 0) (fun _ H'=>Z H'):=by
 refine Ah [] [0,1] Tryz.func129 Tryz.ntmps129 (fun d=>?_)
 refine Z1 ?_
 refine A5 (h:=Q.sub64 (h2:=fun _=>by simp only [Ag];omega)) (hr:=?_)
 refine A5 ?_;refine A2 [0,1,3] ?_
 refine Bg (α:=Nat×Int) (fun s=>⟨19,A6 0 (.yield l0) (A6 1 (.ro [Dm ms]) (A6 3 (A4 s.2) (fun _=>.any))),U s.1,[],[],none⟩) (fun s=>s.1≤ms.length∧N s.1∧s.2=(ms.length:Int)-1-(s.1:Int)) (fun s=>ms.length-s.1) ((0,(ms.length:Int)-1)) ⟨Ao _,h0,by simp⟩ (B4 (by simp)) rfl (fun s hs=>?_)
 obtain ⟨x,i⟩:=s
 obtain ⟨hx,hN,hi⟩:=hs
 dsimp only at hx hN hi ⊢
 refine Z7 ?_;refine A2 [0,1,3,8] ?_
 refine A3 (fun ht8=>?_) (fun ht8=>?_)
 ·have hlt:x<ms.length:=by simp at ht8;omega
  have hlt2:ms.length-1-x<ms.length:=by omega
  have hi2:i=((ms.length-1-x:Nat):Int):=by omega
  subst hi2
  refine Z35 ?_;refine Z34 ?_
  refine A5 (h:=Ad (ms.length-1-x) (G5 ms[ms.length-1-x]) (fun _=>Ar hlt2)) (hr:=?_)
  refine A5 ?_
  refine R.yield (l:=l0) (args:=[A4 ((ms.length-1-x:Nat):Int),G5 ms[ms.length-1-x]]) (hy x ms[ms.length-1-x] _ hlt (Ac hlt2) hN) ?_
  intro b V O hV hb
  have hVO:O=[]∧((b=true∧N (x+1)∧V=U (x+1))∨(b=false∧V.length=(U 0).length∧(∀y∈V,ObjLow (U 0).length y)∧Z V)):=by
   rcases hb with ⟨h1,h2,h3⟩|⟨h1,V',h2,h3,h4,h5⟩
   ·have h6:=Qy h3 (by rw [hV,hlen x,hlen (x+1)])
    exact ⟨h6.2,.inl ⟨h1,h2,h6.1⟩⟩
   obtain ⟨rfl,rfl⟩:=Qy h2 (by rw [hV,hlen x,h3])
   exact ⟨rfl,.inr ⟨h1,h3,h4,h5⟩⟩
  obtain ⟨rfl,hVO⟩:=hVO
  have hVl:V.length=(U 0).length:=by rw [hV,hlen x]
  have hVw:∀y∈V,ObjLow (U 0).length y:=by
   rcases hVO with ⟨_,_,rfl⟩|⟨_,_,h,_⟩
   ·exact hlw _
   exact h
  refine ⟨fun _=>by rw [hVl];exact hVw,fun o ho=>(by cases ho),?_⟩
  refine A5 ?_;refine A2 [0,1,3,18] ?_
  refine A3 (fun ht18=>?_) (fun ht18=>?_)
  ·have hZ:Z V:=by
    rcases hVO with ⟨h1,_,_⟩|⟨_,_,_,h⟩
    ·rw [h1] at ht18;cases ht18
    exact h
   refine Z64 ?_;refine Lp ?_;exact A9 .nores (hp:=hZ)
  have hVn:N (x+1)∧V=U (x+1):=by
   rcases hVO with ⟨_,h2,h3⟩|⟨h1,_,_,_⟩
   ·exact ⟨h2,h3⟩
   rw [h1] at ht18;cases ht18
  obtain ⟨hN1,rfl⟩:=hVn
  refine Z68 ?_;refine A2 [0,1,3] ?_
  refine Au (x+1,((ms.length-1-x:Nat):Int)-1) ⟨hlt,hN1,by dsimp only;omega⟩ (by dsimp only;omega) ?_
  exact Bk rfl
 have hxe:x=ms.length:=by simp at ht8;omega
 refine nj ?_;exact Eo .nores (hp:=by rw [hxe];exact hR (hxe ▸ hN))

theorem c81 (l:List Mov) (Hp:List AObj):AFun Tryz.prog 81 [Dm l] Hp (.fn (.func 129) [] [.ro [Dm l]]):=by
 refine Ah [.tmp 2] [0] Tryz.func81 Tryz.ntmps81 (fun d=>?_)
 refine Z66 ?_;refine zt ?_;refine Z3 ?_;exact A9 (Aj A8) ⟨rfl,rfl⟩ (hlow:=by simp [or_imp,forall_and];exact ⟨fun m _ a _=>Am _ a,fun m _ a _=>Am _ a⟩)

/-! fuse.Back: the trees of all columns ahead. -/
def Um:Mov:=⟨0,[],[],[],[]⟩
def Rt (c:List Col) (ms:List Mov) (i:Nat) (t:List Expr):List Expr×Int:=C3 (colsAt c ms (i+1)) t (ms.getD i Um).back
def Me (take:List Str) (was t:List Expr) (d:List Col) (x:Col):Expr:=if 0≤I5 x.name take then was.getD (I5 x.name take).toNat Aw else t.getD (At x.name d).toNat Aw
def I1 (c:List Col) (take:List Str) (was t:List Expr) (d:List Col):List Expr:=c.map (Me take was t d)
def Pq (c:List Col) (ms:List Mov):Nat→List Expr→List Expr×Int
 | 0,t=>(t,0)
 | i+1,t=>if (Rt c ms i t).2 != 0 then ([],(Rt c ms i t).2) else Pq c ms i (I1 (colsAt c ms i) (ms.getD i Um).take (Rt c ms i t).1 t (colsAt c ms (i+1)))
def Je (c:List Col) (l:List Mov):List Expr×Int:=if (Cg c l).2 != 0 then ([],1) else Pq c l l.length (L7 (colsAt c l l.length))
def Cs (c:List Col) (ms:List Mov):Nat→List Expr
 | 0=>L7 (colsAt c ms ms.length)
 | k+1=>I1 (colsAt c ms (ms.length-1-k)) (ms.getD (ms.length-1-k) Um).take (Rt c ms (ms.length-1-k) (Cs c ms k)).1 (Cs c ms k) (colsAt c ms (ms.length-1-k+1))
theorem AEs {c:List Col} {l:List Mov} (h:((Cg c l).2 != 0)=true):Je c l=([],1):=if_pos h
theorem T0 {c:List Col} {l:List Mov} (h:((Cg c l).2 != 0)=false):Je c l=Pq c l l.length (L7 (colsAt c l l.length)):=if_neg (by rw [h];simp)
theorem tm {l:List Expr} {n:Nat}:l.getD n Aw∈l∨l.getD n Aw=Aw:=by
 rw [Cq]
 cases h:l[n]? with
 | none=>exact .inr rfl
 | some e=>exact .inl (Bi h)
theorem tq {take:List Str} {was t:List Expr} {d:List Col} {x:Col}:Me take was t d x∈was∨Me take was t d x∈t∨Me take was t d x=Aw:=by
 unfold Me
 split
 ·rcases tm (l:=was) (n:=(I5 x.name take).toNat) with h|h
  ·exact .inl h
  exact .inr (.inr h)
 rcases tm (l:=t) (n:=(At x.name d).toNat) with h|h
 ·exact .inr (.inl h)
 exact .inr (.inr h)
theorem lc {c d:List Col} {take:List Str} {was t:List Expr} (hw:TOk was) (ht:TOk t):TOk (I1 c take was t d):=by
 have h0:okE 61 Aw:=⟨by simp [Aw,Expr.text],by simp [Aw,Expr.kids],fun z hz=>by simp [Aw,Expr.kids] at hz⟩
 refine ⟨fun e he=>?_,fun e he=>?_⟩<;>obtain ⟨x,_,rfl⟩:=Cj.1 he<;>rcases tq (take:=take) (was:=was) (t:=t) (d:=d) (x:=x) with h|h|h
 ·exact hw.ok _ h
 ·exact ht.ok _ h
 ·rw [h];exact h0
 ·exact hw.rng _ h
 ·exact ht.rng _ h
 rw [h];rfl
/-- Where the way back stands behind k moves. -/
structure BackAt (c:List Col) (ms:List Mov) (k:Nat):Prop where
 eq:Pq c ms ms.length (L7 (colsAt c ms ms.length))=Pq c ms (ms.length-k) (Cs c ms k)
 ok:TOk (Cs c ms k)
 len:(Cs c ms k).length=(colsAt c ms (ms.length-k)).length
theorem BackAt.zero {c:List Col} {ms:List Mov} (hc:OkCols (colsAt c ms ms.length)):BackAt c ms 0:=⟨rfl,Yh hc,by simp [Cs,L7]⟩
theorem BackAt.err {c:List Col} {ms:List Mov} {k:Nat} (h:BackAt c ms k) (hk:k<ms.length) (he:((Rt c ms (ms.length-1-k) (Cs c ms k)).2 != 0)=true):Pq c ms ms.length (L7 (colsAt c ms ms.length))=([],(Rt c ms (ms.length-1-k) (Cs c ms k)).2):=by
 rw [h.eq,show ms.length-k=ms.length-1-k+1 by omega,Pq,if_pos he]
theorem BackAt.next {c:List Col} {ms:List Mov} {k:Nat} (h:BackAt c ms k) (hk:k<ms.length) (hm:OkMov (ms.getD (ms.length-1-k) Um)) (he:((Rt c ms (ms.length-1-k) (Cs c ms k)).2 != 0)=false):BackAt c ms (k+1):=by
 refine ⟨?_,?_,?_⟩
 ·rw [h.eq,show ms.length-k=ms.length-1-k+1 by omega,Pq,if_neg (by rw [he];simp),show ms.length-(k+1)=ms.length-1-k by omega]
  rfl
 ·exact lc (Qd h.ok _ hm.back.ok hm.back.rng (bne_eq_false_iff_eq.1 he)) h.ok
 rw [Cs,I1,Ag,show ms.length-(k+1)=ms.length-1-k by omega]
theorem BackAt.fin {c:List Col} {ms:List Mov} (h:BackAt c ms ms.length):Pq c ms ms.length (L7 (colsAt c ms ms.length))=(Cs c ms ms.length,0):=by
 have:=h.eq
 rw [S8] at this
 exact this
theorem qq {v:Str} {l:List Str} (h:0≤I5 v l):∃j:Nat,I5 v l=j∧j<l.length:=by
 unfold I5 at h ⊢
 cases hf:l.findIdx? (·==v) with
 | none=>rw [hf] at h;exact absurd h (by decide)
 | some i=>exact ⟨i,rfl,(Ll.1 hf).1⟩
theorem AEt {nm:Str} {c:List Col} {y:Col} (h:y∈c) (hn:y.name=nm):∃j:Nat,At nm c=j∧j<c.length:=by
 unfold At
 cases hf:c.findIdx? (fun y=>y.name==nm) with
 | none =>
  rw [R3] at hf
  have:=hf y h
  rw [hn] at this
  simp at this
 | some i=>exact ⟨i,rfl,(Ll.1 hf).1⟩
/-- A column that is not taken is there behind the move. -/
theorem AG7 {c:List Col} {m:Mov} {y:Col} (ht:(Ba c m).2=0) (hy:y∈c) (hn:¬0≤I5 y.name m.take):∃j:Nat,At y.name (Ba c m).1=j∧j<(Ba c m).1.length:=by
 refine AEt (y:=y) ?_ rfl
 rw [(Pp ht).1]
 refine db _ ?_
 unfold Cd
 rw [Vr]
 refine ⟨hy,?_⟩
 rw [←sh,decide_eq_false hn]
 rfl
theorem T3 {c d:List Col} {take:List Str} {was t:List Expr} {z:Nat} (h:z<c.length):(I1 c take was t d).take (z+1)=(I1 c take was t d).take z++[Me take was t d c[z]]:=by
 have hl:z<(I1 c take was t d).length:=by rw [I1,Ag];exact h
 rw [Id hl]
 simp [I1]
theorem lf {n k:Nat} {o:Bool} {l:List Expr}:∀z∈[AV.slice o k (l.map A7)],Low n z:=fun z hz=>by rw [Bh.1 hz];exact Cr
theorem AEu {l:List Expr} {j:Nat} (h:j<l.length):(l.map A7)[j]? = some (A7 (l.getD j Aw)):=by
 rw [Ch,Ac h,Cq,Ac h];rfl
theorem c35 (c:List Col) (hc:OkCols c) (hc2:c.length≤1000000) (l:List Mov) (h:OkMovs l) (Hp:List AObj):AFun Tryz.prog 35 [Ai c,Dm l] Hp (.tup [Bd (Je c l).1,A4 (Je c l).2]):=by
 refine Ah [.cell 4 25,.cell 5 38] [0,1] Tryz.func35 Tryz.ntmps35 (fun d=>?_)
 refine zp ?_;refine A2 [0,1,4,5] ?_;refine AH5 ?_;refine Qf ?_;refine A2 [1,4,5,6,7] ?_;refine Z7 ?_;refine A2 [1,4,5,6,24] ?_
 refine A3 (fun ht24=>?_) (fun ht24=>?_)
 ·have hm:=AEs ht24
  refine Ef ?_;refine Gz ?_;refine Ts 0 6 ?_;refine Gz ?_;exact AJw
 have hm:=T0 ht24
 obtain ⟨hmay,hst,hss⟩:=K5 ht24
 have hmvo:=Lj hmay
 have hcn:=Ez hc (fun m hm=>h.each m hm) l.length
 have hlen:=h.len
 have hol:((C7 c l l.length).map Ai).length=l.length+1:=by rw [Ag,Gt]
 rw [hss]
 refine eg ?_
 refine A5 (h:=Ad (l.length) (Ai (colsAt c l l.length)) (fun _=>qd (Jd (An _)))) (hr:=?_)
 refine A5 ?_;refine Aa Tryz.call74 (c74 (colsAt c l l.length) hcn.len _) ?_;refine Z11 ?_;refine A2 [1,4,5,6,8] ?_;refine Z53 ?_
 refine Mm (fun hlow=>?_)
 refine A5 ?_;refine Aa Tryz.call81 (c81 l _) ?_;refine A2 [4,5,6,8,33] ?_;refine Ju ?_
 refine Nq (m:=4) Tryz.call129 (fun FR as' bd' hFR has hbd=>?_)
 have hFRl:∀s,Low (Hp.length+6) (FR s):=by
  intro s
  rw [hFR]
  refine Ot ?_
  revert s
  repeat (first|exact Bt|refine Bs (by first|(simp [oid,or_imp,forall_and];done)|(simp [oid,or_imp,forall_and];exact ⟨fun m _ a _=>Am _ a,fun m _ a _=>Am _ a⟩)|(simp [oid,or_imp,forall_and]<;>omega)) ?_)
 have hOl:∀{e:Int} {t:List Expr} {lp:AObj},ObjLow (Hp.length+6) lp→∀x∈Hp++[AObj.cells 25 [AV.nil],AObj.cells 38 [A4 e],AObj.cells 41 [Lz (C7 c l l.length)],AObj.cells 25 [Bd (t)],AObj.defs,lp],ObjLow (Hp.length+6) x:=by
  intro e t lp hlp x hx
  refine L4 (fun x hx=>Nv (by omega) (hlow x hx)) (fun x hx=>?_) x hx
  simp only [B3,Dt,or_false] at hx
  rcases hx with rfl|rfl|rfl|rfl|rfl|rfl
  ·intro y hy;rw [Bh.1 hy];simp
  ·intro y hy;rw [Bh.1 hy];simp
  ·intro y hy;rw [Bh.1 hy];exact Iv
  ·intro y hy;rw [Bh.1 hy];exact Cr
  ·trivial
  exact hlp
 refine ⟨_,APj (oid Hp.length 5) l h.len (fun k=>Hp++[AObj.cells 25 [AV.nil],AObj.cells 38 [A4 0],AObj.cells 41 [Lz (C7 c l l.length)],AObj.cells 25 [Bd (Cs c l k)],AObj.defs,AObj.loop LoopState.ready none FR 91 #[34,35] as' bd' (oid Hp.length 4)]) (BackAt c l) (fun V=>(∃t,V=Hp++[AObj.cells 25 [AV.nil],AObj.cells 38 [A4 0],AObj.cells 41 [Lz (C7 c l l.length)],AObj.cells 25 [Bd (t)],AObj.defs,AObj.loop LoopState.ready none FR 91 #[34,35] as' bd' (oid Hp.length 4)]∧Je c l=(t,0))∨(∃(e:Int) (t:List Expr),V=Hp++[AObj.cells 25 [AV.nil],AObj.cells 38 [A4 e],AObj.cells 41 [Lz (C7 c l l.length)],AObj.cells 25 [Bd (t)],AObj.defs,AObj.loop LoopState.done (some Code.ret) FR 91 #[34,35] as' bd' (oid Hp.length 4)]∧Je c l=([],e))) (fun k=>by simp) (by simp [oid]) (fun k=>(fun x hx=>by rw [Ax];exact hOl (lp:=AObj.loop LoopState.ready none FR 91 #[34,35] as' bd' (oid Hp.length 4)) (by exact ⟨hFRl,by simp [oid]⟩) x hx)) (.zero hcn) (fun k m X hk hm hN=>?_) (fun hN=>.inl ⟨_,rfl,by rw [T0 (by simpa using ht24),hN.fin]⟩),?_⟩
 ·generalize hV:Hp++[AObj.cells 25 [AV.nil],AObj.cells 38 [A4 0],AObj.cells 41 [Lz (C7 c l l.length)],AObj.cells 25 [Bd (Cs c l k)],AObj.defs,AObj.loop LoopState.ready none FR 91 #[34,35] as' bd' (oid Hp.length 4)]++X=V
  have hL:V[oid Hp.length 5]? = some (AObj.loop LoopState.ready none FR 91 #[34,35] as' bd' (oid Hp.length 4)):=by rw [←hV,Bp,B6];rfl
  have hA0:V[oid Hp.length 0]? = some (AObj.cells 25 [AV.nil]):=by rw [←hV,Bp,B6];rfl
  have hB0:V[oid Hp.length 1]? = some (AObj.cells 38 [A4 0]):=by rw [←hV,Bp,B6];rfl
  have hS0:V[oid Hp.length 2]? = some (AObj.cells 41 [Lz (C7 c l l.length)]):=by rw [←hV,Bp,B6];rfl
  have hZ0:V[oid Hp.length 3]? = some (AObj.cells 25 [Bd (Cs c l k)]):=by rw [←hV,Bp,B6];rfl
  refine Nh (pd:=none) (fr:=FR) (sz:=91) (ps:=#[34,35]) (df:=oid Hp.length 4) (asg:=as') (bd:=bd') hL rfl (by decide) (fun d=>?_)
  subst hFR has hbd
  refine Ep [4,5,6,8,34,35] ?_
  have hgm:l.getD (l.length-1-k) Um=m:=by rw [Cq,hm];rfl
  have hmo:=h.each m (Bi hm)
  have hmv:=hmvo m (Bi hm)
  have htn:=Sz hst hm
  have hcn:=Fh (c:=c) hm
  have hCo:=Ez hc (fun m hm=>h.each m hm) (l.length-1-k+1)
  have hCi:=Ez hc (fun m hm=>h.each m hm) (l.length-1-k)
  have herr:=hN.err hk
  have hnxt:=hN.next hk (by rw [hgm];exact hmo)
  have htb:Cs c l (k+1)=I1 (colsAt c l (l.length-1-k)) m.take (Rt c l (l.length-1-k) (Cs c l k)).1 (Cs c l k) (colsAt c l (l.length-1-k+1)):=by rw [Cs,hgm]
  have hwe:Rt c l (l.length-1-k) (Cs c l k)=C3 (colsAt c l (l.length-1-k+1)) (Cs c l k) m.back:=by unfold Rt;rw [hgm]
  rw [hwe] at herr hnxt htb
  have htl:(Cs c l k).length=(colsAt c l (l.length-1-k+1)).length:=by rw [hN.len,show l.length-k=l.length-1-k+1 by omega]
  have hik:l.length-1-k<l.length:=by omega
  generalize l.length-1-k=i at *
  refine Z2 ?_;refine A2 [4,5,6,8,9,35] ?_;refine Og ?_;refine Z11 ?_;refine A2 [4,5,6,8,9,10] ?_
  refine ⟨rfl,none,hL,?_⟩
  generalize hbz:(AObj.loop LoopState.busy _ _ _ _ _ _ _)=bz
  have hA:(V.set (oid Hp.length 5) bz)[oid Hp.length 0]? = some (AObj.cells 25 [AV.nil]):=by rw [Cf (Do (by decide))];exact hA0
  have hB:(V.set (oid Hp.length 5) bz)[oid Hp.length 1]? = some (AObj.cells 38 [A4 0]):=by rw [Cf (Do (by decide))];exact hB0
  have hS:(V.set (oid Hp.length 5) bz)[oid Hp.length 2]? = some (AObj.cells 41 [Lz (C7 c l l.length)]):=by rw [Cf (Do (by decide))];exact hS0
  have hZ:(V.set (oid Hp.length 5) bz)[oid Hp.length 3]? = some (AObj.cells 25 [Bd (Cs c l k)]):=by rw [Cf (Do (by decide))];exact hZ0
  refine Ju ?_;refine Er [0,1,0,0,8,28,60,0,255,511,1023,1023,2047,8191] 13 Ap (by kernel_rfl) ?_;refine Z10 ?_
  refine Av (h:=Bj hS) (hr:=?_)
  refine Z10 ?_
  refine Av (h:=Ad ((i+1)) (Ai (colsAt c l (i+1))) (fun _=>qd (Jd (by omega)))) (hr:=?_)
  refine Av ?_
  refine Av (h:=Bj hZ) (hr:=?_)
  refine I3 Tryz.call75 (c75 m.back hmo.back.len hmo.back.ok (colsAt c l (i+1)) hCo (Cs c l k) (by have:=hCo.len;omega) hN.ok.ok _) ?_
  refine Rb ?_;refine ee ?_;refine A2 [4,5,6,8,9,10,11,12] ?_;refine Z7 ?_;refine A2 [4,5,6,8,9,10,11,12,49] ?_
  refine A3 (fun ht49=>?_) (fun ht49=>?_)
  ·have herr:=herr ht49
   refine Z2 ?_
   refine De jS hA ?_ ?_
   ·simp
   refine De jS (AIe hB (Do (by decide))) ?_ ?_
   ·simp
   refine Ku ?_;refine ng ?_
   subst hbz
   refine ADf ?_
   refine .inr ⟨rfl,Hp++[AObj.cells 25 [AV.nil],AObj.cells 38 [A4 (C3 (colsAt c l (i+1)) (Cs c l k) m.back).2],AObj.cells 41 [Lz (C7 c l l.length)],AObj.cells 25 [Bd (Cs c l k)],AObj.defs,_],?_,by simp,(fun x hx=>by rw [Ax];exact hOl (lp:=_) (by exact ⟨hFRl,by simp [oid]⟩) x hx),.inr ⟨_,_,rfl,by rw [T0 (by simpa using ht24)];exact herr⟩⟩
   subst hV
   simp only [Bp,Du,E8,E3,List.set_cons_succ,List.set_cons_zero]
  have hB1:=hnxt ht49
  have hwl:(C3 (colsAt c l (i+1)) (Cs c l k) m.back).1.length=m.take.length:=(M1 m.back (by simpa using ht49)).trans (Gm (Lg hmv)).2
  refine Of ?_;refine A2 [6,8,9,10,11,13] ?_;refine Z53 ?_;refine Tr 13 6 ?_
  refine A5 (h:=Bj hS) (hr:=?_)
  refine A5 ?_
  refine A5 (h:=Ad (i) (Ai (colsAt c l i)) (fun _=>qd (Jd (by omega)))) (hr:=?_)
  refine Z8 ?_;refine ADh ?_
  refine Bg (α:=Nat) (fun z=>⟨91,A6 6 (.ptr (oid Hp.length 2) 0) (A6 8 (.ptr (oid Hp.length 3) 0) (A6 9 (A4 (i:Nat)) (A6 10 (.ptr (oid V.length 0) 0) (A6 11 (Bd (C3 (colsAt c l (i+1)) (Cs c l k) m.back).1) (A6 13 (.slice true 6 (((I1 (colsAt c l i) m.take (C3 (colsAt c l (i+1)) (Cs c l k) m.back).1 (Cs c l k) (colsAt c l (i+1))).take z).map A7)) (A6 54 (Ai (colsAt c l i)) (A6 55 (A4 ((colsAt c l i).length:Nat)) (A6 56 (A4 (z:Nat)) (fun _=>.any))))))))),(V.set (oid Hp.length 5) bz),[AObj.cells 80 (Io m)],[],some _⟩) (fun z=>z≤(colsAt c l i).length) (fun z=>(colsAt c l i).length-z) (0) (Ao _) (B4 (by simp<;>rfl)) rfl (fun z hz=>?_)
  refine Z2 ?_;refine A2 [6,8,9,10,11,13,54,55,56,57] ?_
  refine E2 (fun ht57=>?_) (fun ht57=>?_)
  ·have hz2:z<(colsAt c l i).length:=by simpa using ht57
   have hnl:((I1 (colsAt c l i) m.take (C3 (colsAt c l (i+1)) (Cs c l k) m.back).1 (Cs c l k) (colsAt c l (i+1))).take z).length≤z:=List.length_take_le _ _
   have hcl:=hCi.len
   refine Tt ?_
   refine A5 (h:=Ad (z) (Bl (colsAt c l i)[z]) (fun _=>Ar hz2)) (hr:=?_)
   refine Si ?_;refine A2 [6,8,9,10,11,13,15,54,55,56] ?_;refine Z46 ?_;refine Aa Tryz.call82 (c82 m.take (colsAt c l i)[z].name hmo.takes _) ?_;refine A5 ?_;refine A2 [6,8,9,10,11,13,15,16,54,55,56] ?_;refine Z1 ?_;refine A2 [6,8,9,10,11,13,15,16,54,55,56,66] ?_
   refine A3 (fun ht66=>?_) (fun ht66=>?_)
   ·obtain ⟨j,hj,hjl⟩:=qq (by simpa using ht66)
    have hpk:Me m.take (C3 (colsAt c l (i+1)) (Cs c l k) m.back).1 (Cs c l k) (colsAt c l (i+1)) (colsAt c l i)[z]=(C3 (colsAt c l (i+1)) (Cs c l k) m.back).1.getD j Aw:=by unfold Me;rw [if_pos (by rw [hj];omega),hj];rfl
    refine Ef ?_;refine R.moveT ?_;refine Z0 ?_
    refine A5 (h:=Ad (j) (A7 ((C3 (colsAt c l (i+1)) (Cs c l k) m.back).1.getD j Aw)) (fun _=>AEu (by omega))) (hr:=?_)
    refine Z55 ?_
    refine D5 jU Tryz.type27 ?_ ?_ ?_
    ·simp only [Ag,Ax,B8,Bq,Tryz.t27];omega
    ·simp only [Ag,Ax,B8,Bq,Tryz.t27];omega
    refine Kk ?_;refine ADh ?_;refine Z19 ?_;refine K.blE ?_;refine Gf ?_;refine Z45 ?_;refine AKt ?_
    rw [T3 hz2,hpk,Bn]
    simp only [Br,Ct,Al]
    exact Di (own:=[AObj.cells 80 (Io m)]) (fun _=>.refl _) (by repeat (first|exact Bt|refine Bs (by first|(simp [oid,or_imp,forall_and];done)|exact Cr|exact Iq|exact K4|exact Dq|(simp [oid,←hV];done)|(simp [oid,←hV];omega)) ?_)) (by intro x hx;rw [Bh.1 hx];exact Qb) (by simp)
   have hjn:¬0≤I5 (colsAt c l i)[z].name m.take:=by simpa using ht66
   obtain ⟨j,hj,hjl⟩:=AG7 htn (As hz2) hjn
   rw [←hcn] at hj hjl
   have hpk:Me m.take (C3 (colsAt c l (i+1)) (Cs c l k) m.back).1 (Cs c l k) (colsAt c l (i+1)) (colsAt c l i)[z]=(Cs c l k).getD j Aw:=by unfold Me;rw [if_neg hjn,hj];rfl
   refine Z4 ?_;refine P6 [0,0,0,0,8,28,60,0,128,508,1022,2046,4094,8191,16383] [] [.s [13,74] none [] [],.q 12 [] []] (fun _=>(V.set (oid Hp.length 5) bz)) (fun _=>[AObj.cells 80 (Io m),AObj.cells 69 [Ab (colsAt c l i)[z].name,A4 (colsAt c l i)[z].kind]]) Ap (by kernel_rfl) rfl rfl (fun _=>rfl) ?_;refine Y.moveT ?_
   apply Y.q
   ·intro B hT hF
    refine Av (h:=Bj hZ) (hr:=?_)
    refine Av (h:=Bj hS) (hr:=?_)
    refine Z10 ?_
    refine Av (h:=Ad ((i+1)) (Ai (colsAt c l (i+1))) (fun _=>qd (Jd (by omega)))) (hr:=?_)
    refine Z37 ?_;refine I3 Tryz.call60 (c60 (colsAt c l (i+1)) hCo (colsAt c l i)[z].name _) ?_
    refine Av (h:=Ad (j) (A7 ((Cs c l k).getD j Aw)) (fun _=>AEu (by omega))) (hr:=?_)
    exact na
   case hTF=>decide
   refine nu ?_
   refine D5 jU Tryz.type27 ?_ ?_ ?_
   ·simp only [Ag,Ax,B8,Bq,Tryz.t27];omega
   ·simp only [Ag,Ax,B8,Bq,Tryz.t27];omega
   refine Kk ?_;refine ADh ?_;refine X0 ?_;refine AKt ?_
   rw [T3 hz2,hpk,Bn]
   simp only [Br,Ct,Al]
   exact Di (own:=[AObj.cells 80 (Io m)]) (fun _=>.refl _) (by repeat (first|exact Bt|refine Bs (by first|(simp [oid,or_imp,forall_and];done)|exact Cr|exact Iq|exact K4|exact Dq|(simp [oid,←hV];done)|(simp [oid,←hV];omega)) ?_)) (by intro x hx;rw [Bh.1 hx];exact Qb) (by simp)
  have hze:(colsAt c l i).length≤z:=by simpa using ht57
  refine Z17 ?_;refine Z61 ?_
  refine De jS hZ ?_ ?_
  ·exact lf
  refine Z96 ?_
  subst hbz
  refine zy ?_
  refine .inl ⟨rfl,hB1,?_⟩
  subst hV
  simp only [Bp,Du,E8,E3,List.set_cons_succ,List.set_cons_zero]
  rw [htb,Cu (by rw [I1,Ag];exact hze)]
 rintro r H' (⟨t,rfl,hrun⟩|⟨e,t,rfl,hrun⟩)
 ·refine ⟨Hp,_,_,_,rfl,rfl,fun h=>h,?_,rfl,by simp,?_⟩
  ·intro o ho
   have:o=oid Hp.length 4:=by simpa using ho
   subst this
   rw [B6]
   rfl
  refine Z9 ?_;refine Z42 ?_;refine Gz ?_;refine Z50 ?_;exact A9 (B9 (Fc jA) (Fc jA)) ⟨by rw [hrun],rfl⟩ (hlow:=by simp only [Ni,B3,Dt,or_false];rintro y (rfl|rfl);exact Cr;simp)
 refine ⟨Hp,_,_,_,rfl,rfl,fun h=>h,?_,rfl,by simp,?_⟩
 ·intro o ho
  have:o=oid Hp.length 4:=by simpa using ho
  subst this
  rw [B6]
  rfl
 refine W.nilOwn 0 6 ?_;refine Z64 ?_;exact A9 (B9 (Fc jA) (Fc jA)) ⟨by rw [hrun];rfl,rfl⟩

/-- sound.Check. -/
def Gn (c:List Col) (l:List Mov):Int×Int:=if K3 c l then (((C2 c l).1.length-1:Nat),(C2 c l).2) else (0,1)
theorem AEv {c:List Col} {ms:List Mov} {k:Nat} {m:Mov} (hk:ms[k]? = some m) (h:NS c ms k) (he:(Ba (colsAt c ms k) m).2≠0):(C2 c ms).1.length=k+1:=by
 unfold NS at h
 rw [h,Ko hk,C2,if_pos (by simpa using he)]
 have:=Gt c ms k
 simp [this]
theorem x8 {c:List Col} {l:List Mov} (h:K3 c l=false):Gn c l=(0,1):=if_neg (by rw [h];simp)
theorem x9 {c:List Col} {l:List Mov} (h:K3 c l=true) (hr:C2 c l=(C7 c l l.length,0)):Gn c l=((l.length:Int),0):=by
 unfold Gn
 rw [if_pos h,hr]
 simp only [Gt]
 rfl
theorem qr {c:List Col} {l:List Mov} {n:Nat} {e:Int} (h:K3 c l=true) (h1:(C2 c l).1.length=n+1) (h2:(C2 c l).2=e):Gn c l=((n:Int),e):=by
 unfold Gn
 rw [if_pos h,h1,h2]
 rfl
theorem c34 (c:List Col) (hc:OkCols c) (hc2:c.length≤1000000) (l:List Mov) (h:OkMovs l) (Hp:List AObj):AFun Tryz.prog 34 [Ai c,Dm l] Hp (.tup [A4 (Gn c l).1,A4 (Gn c l).2]):=by
 refine Ah [.cell 4 3,.cell 5 38] [0,1] Tryz.func34 Tryz.ntmps34 (fun d=>?_)
 refine zp ?_;refine A2 [0,1,4,5] ?_;refine Z7 ?_;refine Aa Tryz.call79 (c79 c hc l h _) ?_;refine A5 ?_;refine A2 [0,1,4,5,12] ?_
 refine A3 (fun ht12=>?_) (fun ht12=>?_)
 ·have hm:=x8 (by simpa using ht12)
  refine Ef ?_;refine Gz ?_;refine Gz ?_;exact AJw
 have hmay:K3 c l=true:=by simpa using ht12
 obtain ⟨hmv,hl8⟩:=g9 hmay h
 refine ir ?_;refine Z11 ?_;refine A2 [0,1,4,5,6] ?_;refine Z53 ?_
 refine Mm (fun hlow=>?_)
 refine Z0 ?_;refine R.callO Tryz.call80 (c80 c l _) ?_
 rintro _ _ ⟨rfl,rfl⟩
 refine ⟨[.cells 30 [Ai c]],by simp,?_⟩
 rw [show oid (Hp++[AObj.cells 3 [A4 0],AObj.cells 38 [A4 0],AObj.cells 3 [A4 0]]).length 0=oid Hp.length 3 by simp [oid]]
 simp only [E8,E3]
 refine A2 [4,5,6,15] ?_;refine Ju ?_
 refine Nq (m:=4) Tryz.call127 (fun FR as' bd' hFR has hbd=>?_)
 have hFRl:∀s,Low (Hp.length+6) (FR s):=by
  intro s
  rw [hFR]
  refine Ot ?_
  revert s
  repeat (first|exact Bt|refine Bs (by first|(simp [oid,or_imp,forall_and];done)|(simp [oid,or_imp,forall_and];exact ⟨fun m _ a _=>Am _ a,fun m _ a _=>Am _ a⟩)|(simp [oid,or_imp,forall_and]<;>omega)) ?_)
 have hOl:∀{n e k:Int} {q:List Col} {lp:AObj},ObjLow (Hp.length+6) lp→∀x∈Hp++[AObj.cells 3 [A4 n],AObj.cells 38 [A4 e],AObj.cells 3 [A4 k],AObj.cells 30 [Ai (q)],AObj.defs,lp],ObjLow (Hp.length+6) x:=by
  intro n e k q lp hlp x hx
  refine L4 (fun x hx=>Nv (by omega) (hlow x hx)) (fun x hx=>?_) x hx
  simp only [B3,Dt,or_false] at hx
  rcases hx with rfl|rfl|rfl|rfl|rfl|rfl
  ·intro y hy;rw [Bh.1 hy];simp
  ·intro y hy;rw [Bh.1 hy];simp
  ·intro y hy;rw [Bh.1 hy];simp
  ·intro y hy;rw [Bh.1 hy];exact Dq
  ·trivial
  exact hlp
 refine ⟨_,AMg (oid Hp.length 5) (oid Hp.length 3) l hmv (by omega) (colsAt c l) (Ez hc fun m hm=>h.each m hm) (fun k=>Hp++[AObj.cells 3 [A4 0],AObj.cells 38 [A4 0],AObj.cells 3 [A4 (k:Int)],AObj.cells 30 [Ai (colsAt c l k)],AObj.defs,AObj.loop LoopState.ready none FR 25 #[16,17] as' bd' (oid Hp.length 4)]) (fun k=>Hp++[AObj.cells 3 [A4 0],AObj.cells 38 [A4 0],AObj.cells 3 [A4 ((k+1:Nat):Int)],AObj.cells 30 [Ai (colsAt c l k)],AObj.defs,AObj.loop LoopState.ready none FR 25 #[16,17] as' bd' (oid Hp.length 4)]) (NS c l) (fun V=>(∃(q:List Col),V=Hp++[AObj.cells 3 [A4 0],AObj.cells 38 [A4 0],AObj.cells 3 [A4 (l.length:Int)],AObj.cells 30 [Ai (q)],AObj.defs,AObj.loop LoopState.ready none FR 25 #[16,17] as' bd' (oid Hp.length 4)]∧C2 c l=(C7 c l l.length,0))∨(∃(e:Int) (n:Nat) (q:List Col),V=Hp++[AObj.cells 3 [A4 (n:Int)],AObj.cells 38 [A4 e],AObj.cells 3 [A4 (n:Int)],AObj.cells 30 [Ai (q)],AObj.defs,AObj.loop LoopState.done (some Code.ret) FR 25 #[16,17] as' bd' (oid Hp.length 4)]∧e≠0∧(C2 c l).2=e∧(C2 c l).1.length=n+1)) (fun k=>by simp) (fun k=>by simp) (by simp [oid]) (by simp [oid]) (fun k=>(fun x hx=>by rw [Ax];exact hOl (lp:=AObj.loop LoopState.ready none FR 25 #[16,17] as' bd' (oid Hp.length 4)) (by exact ⟨hFRl,by simp [oid]⟩) x hx)) (fun k=>(fun x hx=>by rw [Ax];exact hOl (lp:=AObj.loop LoopState.ready none FR 25 #[16,17] as' bd' (oid Hp.length 4)) (by exact ⟨hFRl,by simp [oid]⟩) x hx)) AEl (fun k=>by rw [B6];rfl) (fun k=>by rw [B6];rfl) (fun k m hk he=>by rw [Du];simp only [Fh hk];rfl) (fun k m X hk hN=>?_) (fun hN=>.inl ⟨_,rfl,g8 hN⟩),?_⟩
 ·generalize hV:Hp++[AObj.cells 3 [A4 0],AObj.cells 38 [A4 0],AObj.cells 3 [A4 (k:Int)],AObj.cells 30 [Ai (colsAt c l k)],AObj.defs,AObj.loop LoopState.ready none FR 25 #[16,17] as' bd' (oid Hp.length 4)]++X=V
  have hL:V[oid Hp.length 5]? = some (AObj.loop LoopState.ready none FR 25 #[16,17] as' bd' (oid Hp.length 4)):=by rw [←hV,Bp,B6];rfl
  have hA0:V[oid Hp.length 2]? = some (AObj.cells 3 [A4 (k:Int)]):=by rw [←hV,Bp,B6];rfl
  have hB0:V[oid Hp.length 0]? = some (AObj.cells 3 [A4 0]):=by rw [←hV,Bp,B6];rfl
  have hC0:V[oid Hp.length 1]? = some (AObj.cells 38 [A4 0]):=by rw [←hV,Bp,B6];rfl
  refine Nh (pd:=none) (fr:=FR) (sz:=25) (ps:=#[16,17]) (df:=oid Hp.length 4) (asg:=as') (bd:=bd') hL rfl (by decide) (fun d=>?_)
  subst hFR has hbd
  refine Ep [4,5,6,17] ?_;refine Z61 ?_;refine A2 [4,5,6,8] ?_
  refine ⟨rfl,none,hL,?_⟩
  generalize hbz:(AObj.loop LoopState.busy _ _ _ _ _ _ _)=bz
  have hA:(V.set (oid Hp.length 5) bz)[oid Hp.length 2]? = some (AObj.cells 3 [A4 (k:Int)]):=by rw [Cf (Do (by decide))];exact hA0
  have hB:(V.set (oid Hp.length 5) bz)[oid Hp.length 0]? = some (AObj.cells 3 [A4 0]):=by rw [Cf (Do (by decide))];exact hB0
  have hC:(V.set (oid Hp.length 5) bz)[oid Hp.length 1]? = some (AObj.cells 38 [A4 0]):=by rw [Cf (Do (by decide))];exact hC0
  refine Ju ?_;refine Z7 ?_;refine A2 [4,5,6,8,19] ?_
  refine A3 (fun ht19=>?_) (fun ht19=>?_)
  ·have he:(Ba (colsAt c l k) m).2≠0:=by simpa using ht19
   refine Ef ?_
   refine A5 (h:=Bj hA) (hr:=?_)
   refine A5 ?_
   refine De jS hB ?_ ?_
   ·simp
   refine De jS (AIe hC (Do (by decide))) ?_ ?_
   ·simp
   refine Ku ?_;refine ng ?_
   subst hbz
   refine ADf ?_
   refine .inl ⟨he,Hp++[AObj.cells 3 [A4 (k:Int)],AObj.cells 38 [A4 (Ba (colsAt c l k) m).2],AObj.cells 3 [A4 (k:Int)],AObj.cells 30 [Ai (colsAt c l k)],AObj.defs,_],?_,by simp,(fun x hx=>by rw [Ax];exact hOl (lp:=_) (by exact ⟨hFRl,by simp [oid]⟩) x hx),.inr ⟨_,_,_,rfl,he,g7 hk hN he,AEv hk hN he⟩⟩
   subst hV
   simp only [Bp,Du,E8,E3,List.set_cons_succ,List.set_cons_zero]
  have he:(Ba (colsAt c l k) m).2=0:=by simpa using ht19
  refine Z4 ?_;refine Og ?_
  refine A5 (h:=Bj hA) (hr:=?_)
  refine A5 (h:=Q.add64 (h2:=fun _=>by have hkl:=(Ae.1 hk).1;omega)) (hr:=?_)
  refine De jS hA ?_ ?_
  ·simp
  refine Z96 ?_
  subst hbz
  refine zy ?_
  refine .inr ⟨he,rfl,W7 hk hN he,?_⟩
  subst hV
  simp only [Bp,Du,E8,E3,List.set_cons_succ,List.set_cons_zero]
  rfl
 rintro r H' (⟨q,rfl,hrun⟩|⟨e,n,q,rfl,hne,hrun,hlen⟩)
 ·refine ⟨Hp,_,_,_,rfl,rfl,fun h=>h,?_,rfl,by simp,?_⟩
  ·intro o ho
   have:o=oid Hp.length 4:=by simpa using ho
   subst this
   rw [B6]
   rfl
  refine Z9 ?_;refine Z42 ?_;refine Gz ?_;refine Z50 ?_;exact A9 (B9 (Fc jA) (Fc jA)) ⟨by rw [x9 hmay hrun],rfl⟩
 refine ⟨Hp,_,_,_,rfl,rfl,fun h=>h,?_,rfl,by simp,?_⟩
 ·intro o ho
  have:o=oid Hp.length 4:=by simpa using ho
  subst this
  rw [B6]
  rfl
 refine Z64 ?_;exact A9 (B9 (Fc jA) (Fc jA)) ⟨by rw [qr hmay hlen hrun],rfl⟩

end Go.SX.Nb
namespace Go.SX
variable [GI:GlobInv]
open Classical
section
variable {P:Program} {d:Nat} {st:St} {ty:TypeId} {pos:String} {aft:Array Edge} {gd:Option (Nat×Bool)}
/-- A variable of its own, not laid yet. -/
theorem AOp.allocP {t:TypeId} {z:Value} {k s:Nat} (hz:∀w,(zeroValue t).run P w=.ok z w) (hk:z.cells.size=k) (hs:s<st.sz):
  AOp P d ⟨some s,.alloc t,ty,pos,aft,gd⟩ st (·=st.set s (.cellp k)):=by
 subst hk
 intro G a w h Q'
 let G':Gh:={ G with tag:=fun b o=>if b=w.heap.size∧o<z.cells.size then .tail (.slot d s) else G.tag b o }
 have hfree:∀o,G.tag w.heap.size o=.free:=fun o=>J3 h.tags _ o (An _)
 have hne:∀b o,G.tag b o≠.free→¬(b=w.heap.size∧o<z.cells.size):=fun b o hb hc=>by rw [hc.1] at hb;exact hb (hfree o)
 have hkeep:∀b o,G.tag b o≠.free→G'.tag b o=G.tag b o:=fun b o hb=>by simp only [G'];rw [if_neg (hne b o hb)]
 have hcell:∀b o,G.tag b o≠.free→(w.alloc (.cells z.cells t)).cell? ⟨b,o,none⟩=w.cell? ⟨b,o,none⟩:=fun b o hb=>by
  refine World.cell?_alloc_old _ _ _ ?_
  show b≠w.heap.size
  rintro rfl
  exact hb (hfree o)
 have T:Turn G w G' (w.alloc (.cells z.cells t)):=by
  refine ⟨fun b o hb=>⟨by rw [hkeep b o (by rw [hb];simp)];exact hb,hcell b o (by rw [hb];simp)⟩,fun b o L hb=>by rw [hkeep b o (by rw [hb];simp)];exact hb,fun b o i hb=>by rw [hkeep b o (by rw [hb];simp)];exact hb,An _,fun o ho=>rfl,rfl,rfl,rfl,by simp,dg _ (fun b o hb=>.inl (by simp only [G'];rw [if_neg (by omega)])) (fun i hi=>.inl ⟨hi,rfl⟩)⟩
 have h1:StRel d G' st a (w.alloc (.cells z.cells t)):=by
  refine h.turn (U:=st.up) (O:=st.own) T ⟨fun i x hx=>T.objRel ?_ ?_ (h.heap.obj i x hx) (fun b hb=>?_),h.heap.n,h.heap.inj⟩ rfl h.defsAt ⟨fun b o hb=>?_,fun b o i hb=>?_,fun b o L hb=>?_,h.tags.globKeep T.old⟩ h.low
  ·rw [h.heap.n];exact (Ae.1 hx).1
  ·have:=(h.heap.obj i x hx).blt
   show (w.heap.push _)[G.blk i]? = _
   rw [Qj,if_neg (by omega)]
  ·have:=hb.lt
   show (w.heap.push _)[b]? = _
   rw [Qj,if_neg (by omega)]
  ·simp only [G'] at hb
   split at hb
   ·rename_i hc
    obtain ⟨rfl,hlt⟩:=hc
    exact ⟨z.cells[o],by rw [World.cell?_alloc_new];exact Eb hlt⟩
   rw [hcell b o hb]
   exact h.tags.ex b o hb
  ·simp only [G'] at hb
   split at hb
   ·cases hb
   rw [World.frozen?_alloc_old]
   ·exact h.tags.obj b o i hb
   show b≠w.heap.size
   rintro rfl
   rw [hfree] at hb;cases hb
  simp only [G'] at hb
  split at hb
  ·rename_i hc
   obtain ⟨rfl,hlt⟩:=hc
   exact World.frozen?_alloc_new _ _ _ _
  rw [World.frozen?_alloc_old]
  ·exact h.tags.tail b o L hb
  show b≠w.heap.size
  rintro rfl
  rw [hfree] at hb;cases hb
 have hrun:(execOp a.eval (⟨some s,.alloc t,ty,pos,aft,gd⟩:Oper)).run P w=.ok (.value (.pointer (some ⟨w.heap.size,0,none⟩))) (w.alloc (.cells z.cells t)):=by
  simp [execOp,Instr.alloc,hz,newVar,newRow]
 refine Dd (by intro c h;cases h) hrun ⟨G',_,h1.put (s:=s) (y:=.cellp z.cells.size) hs ?_,T.keep d,rfl,rfl,rfl,rfl⟩
 exact .cellp _ _ _ ⟨_,rfl,fun o ho=>by simp [G',ho]⟩

/-- It is laid: from now on nobody writes it. -/
theorem AOp.storeP {t:TypeId} {x:Operand} {r k:Nat} {y:AV} (hsz:∀w,(sizeOf t).run P w=.ok k w) (hf:st.fr r=.cellp k) (hx:st.ev x=y) (hk:y.cells.length=k) (hk0:0<k) (h1:y.cells.all AV.one=true):
  AOp P d ⟨none,.store t (.tmp r) x,ty,pos,aft,gd⟩ st (·=st.set r (.ro y.cells)):=by
 intro G a w h Q'
 have hone:∀c∈y.cells,c.one=true:=fun c hc=>B1.1 h1 c hc
 obtain ⟨hc,hcc⟩:=(hx ▸ h.eval x).cells hone
 have hsl:=h.slots r
 rw [hf] at hsl
 generalize hv:a.tmps.getD r undef=v at hsl
 cases hsl with
 | cellp l k b ho =>
  obtain ⟨L,hL,ht⟩:=ho
  injection hL with hL
  subst hL
  let us:=(a.eval x).cells.toList
  have hul:us.length=k:=by simp only [us,Array.length_toList];omega
  have huone:∀u∈us,u.oneCell'=true:=fun u hu=>by
   obtain ⟨j,hj⟩:=C9 hu
   have hj':(a.eval x).cells[j]? = some u:=by rw [←Te];exact hj
   have hlt:j<y.cells.length:=by rw [←hc];exact (O8.1 hj').1
   exact (hcc j _ u (Ac hlt) hj').one (hone _ (As hlt))
  have hrun0:=run_storeCells_cells (P:=P) b 0 us 0 w (fun j hj=>by
    obtain ⟨u,hu⟩:=h.tags.ex b j (by rw [ht j (by omega)];simp)
    simp only [Nat.add_zero,By];rw [hu];rfl) (fun j hj=>by simpa using h.tags.tail _ _ _ (ht j (by omega))) huone
  simp only [Nat.add_zero] at hrun0
  let W:=w.setCells b 0 us
  let G':Gh:={ G with tag:=fun b' o=>if b'=b∧o<k then .fix else G.tag b' o }
  have htag:∀b' o,G.tag b' o≠.tail (.slot d r)→G'.tag b' o=G.tag b' o:=fun b' o hb=>by
   simp only [G']
   rw [if_neg]
   rintro ⟨rfl,ho⟩
   exact hb (ht o ho)
  have hout:∀b' o,¬(b'=b∧o<k)→W.cell? ⟨b',o,none⟩=w.cell? ⟨b',o,none⟩:=fun b' o hn =>
   World.cell?_setCells_out _ us 0 w ⟨b',o,none⟩ (fun hb _=>by
    simp only at hb ⊢
    exact .inr (Vy fun h''=>hn ⟨hb,by omega⟩))
  have hcell:∀b' o,G.tag b' o≠.tail (.slot d r)→W.cell? ⟨b',o,none⟩=w.cell? ⟨b',o,none⟩:=fun b' o hb=>hout b' o (fun hn=>hb (by rw [hn.1];exact ht o hn.2))
  have hnb:∀i,i<G.n→G.blk i≠b:=Oa h.heap h.tags (ht 0 hk0)
  have hheap:∀b',b'≠b→W.heap[b']? = w.heap[b']? := fun b' hb=>Ev _ _ _ _ _ hb
  have hsize:W.heap.size=w.heap.size:=Eu _ _ _ _
  have hstill:Still G w G' W:=Nd (fun b' hb'=>hheap b' (fun e=>O9 (ht 0 hk0) (e ▸ hb'))) (K8 hsize.symm) (fun b' o _=>by
   by_cases hc:b'=b∧o<k
   ·exact .inr ⟨_,by rw [hc.1];exact ht o hc.2⟩
   exact .inl (by simp only [G'];rw [if_neg hc])) (fun i hi=>.inl ⟨hi,rfl⟩)
  have hfix:∀b' o,G.tag b' o=.fix→G'.tag b' o=.fix∧W.cell? ⟨b',o,none⟩=w.cell? ⟨b',o,none⟩:=fun b' o hb=>⟨by rw [htag b' o (by rw [hb];simp)];exact hb,hcell b' o (by rw [hb];simp)⟩
  have htail:∀b' o L,L≠.slot d r→G.tag b' o=.tail L→G'.tag b' o=.tail L:=fun b' o L hL hb=>by
   rw [htag b' o (by rw [hb];intro e;injection e with e;exact hL e)];exact hb
  have hobj:∀b' o i,G.tag b' o=.obj i→G'.tag b' o=.obj i:=fun b' o i hb=>by rw [htag b' o (by rw [hb];simp)];exact hb
  have hrep:∀{l:Option Loc} {z:AV} {u:Value},l≠some (.slot d r)→Rep G w l z u→Rep G' W l z u:=fun hl hz =>
   hz.mono (G':=G') hfix (An _) (fun _ _=>rfl) (fun L hL b' o ht'=>htail b' o L (fun e=>hl (by rw [hL,e])) ht')
  have hkeep:Keep d G w G' W:=⟨hfix,fun b' o e s he ht'=>htail b' o _ (by rintro ⟨⟩;omega) ht',An _,fun _ _=>rfl,Ir _ _ _ _,Gv _ _ _ _,Fg _ _ _ _,K8 hsize.symm,hstill⟩
  have hvec:∀j u,us[j]? = some u→W.cell? ⟨b,j,none⟩=some u:=fun j u hu=>by
   have hj:=(Ae.1 hu).1
   have hex:∃u',w.cell? ⟨b,j,none⟩=some u':=h.tags.ex b j (by rw [ht j (by omega)];simp)
   obtain ⟨u',hu'⟩:=hex
   have hbk:∃vs e fz,w.heap[b]? = some (.cells vs e fz):=by
    simp only [World.cell?] at hu'
    split at hu'
    ·rename_i vs e fz hb;exact ⟨vs,e,fz,hb⟩
    cases hu'
   obtain ⟨vs,e,fz,hbk⟩:=hbk
   have hlen:0+us.length≤vs.size:=by
    rw [hul,By]
    rcases C0 vs.size k with h'|h'
    ·exfalso
     obtain ⟨u2,hu2⟩:=h.tags.ex b vs.size (by rw [ht _ h'];simp)
     simp [World.cell?,hbk] at hu2
    exact h'
   obtain ⟨vs',b1,b2,b3⟩:=Ln b e fz us 0 w vs hbk hlen
   have b3':=b3 j
   rw [if_pos (by omega)] at b3'
   show (w.setCells b 0 us).cell? ⟨b,j,none⟩=some u
   simp only [World.cell?,b1]
   rw [b3',Nat.sub_zero]
   exact hu
  have hst:StRel d G' (st.set r (.ro y.cells)) a W:=by
   refine ⟨h.size,fun s=>?_,⟨fun i z hz=>?_,h.heap.n,h.heap.inj⟩,h.defs,h.defsAt,h.defsNodup,h.defsGe,⟨fun b' o hb=>?_,fun b' o i hb=>?_,fun b' o L hb=>?_,h.tags.globKeep hstill⟩,h.rnd,h.low,h.top⟩
   ·show Rep G' W _ (A6 r (.ro y.cells) st.fr s) _
    unfold A6
    by_cases hs:s=r
    ·subst hs
     rw [if_pos rfl,hv]
     refine .ro _ _ ⟨b,0,none⟩ (fun j=>(a.eval x).cells.getD j undef) rfl hone (fun j c hj=>?_) (fun j c hj=>?_)
     all_goals
      have hlt:j<y.cells.length:=(Ae.1 hj).1
      have hu:(a.eval x).cells[j]? = some ((a.eval x).cells[j]'(by omega)):=Eb _
      have e1:(a.eval x).cells.getD j undef=(a.eval x).cells[j]'(by omega):=by rw [Ke,hu];rfl
      rw [e1]
     ·refine ⟨by simp only [G',By];rw [if_pos ⟨trivial,by omega⟩],?_⟩
      rw [By]
      exact hvec j _ (by simp only [us];rw [Te];exact hu)
     exact hrep (by simp) (hcc j c _ hj hu)
    rw [if_neg hs]
    exact hrep (by simp;exact fun e=>hs e) (h.slots s)
   ·have hob:=h.heap.obj i z hz
    have hi:i<G.n:=by rw [h.heap.n];exact (Ae.1 hz).1
    have hb:=hheap (G.blk i) (hnb i hi)
    cases z with
    | cells t cs =>
     obtain ⟨vs,a1,a2,a3,a4⟩:=hob
     exact ⟨vs,hb.trans a1,a2,fun j y u p q=>hrep (by simp) (a3 j y u p q),fun j hj=>hobj _ _ _ (a4 j hj)⟩
    | loop sta pd fr sz ps asg bd df =>
     obtain ⟨fn,tmps,a1,a2,a3,a4⟩:=hob
     exact ⟨fn,tmps,hb.trans a1,a2,fun s=>hrep (by simp) (a3 s),a4⟩
    | defs=>exact hb.trans hob
    | dead=>exact hb.trans hob
    | bld t e bs=>exact BldRel.turn hob rfl (fun b' o ho=>hobj b' o i ho) hb (fun b' ha=>hheap b' (fun e=>by
      have:=ha.tag h.tags (o:=0) (by rw [e,ht 0 hk0];simp)
      rw [e,ht 0 hk0] at this;cases this))
    | gone =>
     obtain ⟨vs,t,fz,a1,a2⟩:=hob
     exact ⟨vs,t,fz,hb.trans a1,fun j hj=>(hfix _ _ (a2 j hj)).1⟩
   ·by_cases hc:b'=b∧o<k
    ·obtain ⟨rfl,ho⟩:=hc
     exact ⟨us[o]'(by omega),hvec o _ (Ac _)⟩
    rw [hout b' o hc]
    simp only [G',if_neg hc] at hb
    exact h.tags.ex b' o hb
   ·rw [World.frozen?_setCells]
    simp only [G'] at hb
    split at hb
    ·cases hb
    exact h.tags.obj b' o i hb
   rw [World.frozen?_setCells]
   simp only [G'] at hb
   split at hb
   ·cases hb
   exact h.tags.tail b' o L hb
  have hrun:(execOp a.eval (⟨none,.store t (.tmp r) x,ty,pos,aft,gd⟩:Oper)).run P w=.ok .skip W:=
   He hsz (show a.eval (.tmp r)=_ from hv) (by omega) hrun0
  exact Hq (by intro c h;cases h) hrun ⟨G',_,hst,hkeep,rfl,rfl,rfl,rfl⟩
end
section
variable {P:Program} {d:Nat} {sz:Nat} {dfs:List Nat} {rnd:Option Nat} {l0:List Oper} {up own:(Nat→Bool)→List AObj} {KP:List PanicEntry→St→Prop} {E:List Oper→(Nat→AV)→Prop} {S:List SegY} {l:List Oper} {fr:Nat→AV} {ty:TypeId} {pos:String} {aft:Array Edge} {s:Nat} {T F:List Nat}
theorem Y.allocP {t:TypeId} {z:Value} {k:Nat} (hz:∀w,(zeroValue t).run P w=.ok z w) (h:ChainY P d l0 sz up own dfs rnd KP E S l (A6 s (.cellp k) fr)) (hk:z.cells.size=k:=by rfl) (hs:Nat.blt s sz=true:=by rfl):
  ChainY P d l0 sz up own dfs rnd KP E (.s [s] none T F::S) (⟨some s,.alloc t,ty,pos,aft,none⟩::l) fr:=by
 refine ⟨_,l,[(s,.cellp k)],rfl,⟨rfl,rfl,fun B f _ _ _ hf=>.of ?_⟩,h⟩
 exact AOp.allocP (st:=⟨sz,f,up B,own B,dfs,rnd⟩) hz hk (by simpa using hs)
theorem Y.storeP {t:TypeId} {x:Operand} {r k:Nat} {y:AV} {ys:List AV} (hsz:∀w,(Go.sizeOf t).run P w=.ok k w) (h:ChainY P d l0 sz up own dfs rnd KP E S l (A6 r (.ro ys) fr))
  (hf:fr r=.cellp k:=by exact sL0) (hx:Bb fr x=y:=by exact sL0) (hc:y.cells=ys:=by exact sL0)
  (hk:ys.length=k:=by rfl) (hk0:0<k:=by decide) (h1:ys.all AV.one=true:=by exact sL1):
  ChainY P d l0 sz up own dfs rnd KP E (.s [r] none T F::S) (⟨none,.store t (.tmp r) x,ty,pos,aft,none⟩::l) fr:=by
 subst hc
 refine ⟨_,l,[(r,.ro y.cells)],rfl,⟨rfl,rfl,fun B f _ _ _ hfr=>.of ?_⟩,h⟩
 have e:f r=fr r:=hfr r (by simp [lk,Wj,Op.operands])
 have ex:Bb f x=y:=by rw [agr hfr (by simp [Op.operands])];exact hx
 exact AOp.storeP (st:=⟨sz,f,up B,own B,dfs,rnd⟩) hsz (e.trans hf) ex hk hk0 h1
end
end Go.SX
