/- On the way (part 3). -/
import Derived.RecoverIn
import Derived.LaidEql
import Derived.Test.YtofbdcbjpdpllaaGreatDoorFuseForthCardSaidPart2
set_option linter.all false
namespace Go.SX
variable [GI:GlobInv]
open Classical
/-- What recover gives behind an exit. -/
inductive Recov:Exit→AV→Prop
 | normal:Recov .normal (.v .nilIface)
 | ret:Recov .ret (.v .nilIface)
 | panic (t:TypeId) (vs:List Value) (h:∀v∈vs,(AV.v v).one=true):Recov (.panic (o8 (.iface t (.agg vs.toArray)))) (.iface t (.agg (vs.map .v)))
/-- The same in the frame's mode. -/
inductive RecovM:FrameMode→AV→Prop
 | none:RecovM .returning (.v .nilIface)
 | panic (t:TypeId) (vs:List Value) (h:∀v∈vs,(AV.v v).one=true):RecovM (.panicking (o8 (.iface t (.agg vs.toArray)))) (.iface t (.agg (vs.map .v)))
theorem TagOK.to {GI1 GI2:GlobInv} (h:GI1.blocks=GI2.blocks) {G:Gh} {w:World} (k:@TagOK GI1 G w):@TagOK GI2 G w:=@TagOK.mk GI2 _ _ (@TagOK.ex GI1 _ _ k) (@TagOK.obj GI1 _ _ k) (@TagOK.tail GI1 _ _ k) (by rw [←h];exact @TagOK.glob GI1 _ _ k)
section
variable {P:Program} {d:Nat}
theorem ga {G:Gh} {w:World} (vs:List Value) (hone:∀v∈vs,(AV.v v).one=true):Rep G w none (.agg (vs.map .v)) (.agg vs.toArray):=by
 refine .agg _ _ _ (by simp) (fun y hy=>?_) (fun i y u h1 h2=>?_)
 ·obtain ⟨v,hv,rfl⟩:=Cr.1 hy
  exact hone v hv
 simp only [Cf,F6] at h1
 obtain ⟨v,hv,rfl⟩:=h1
 simp only [Wx] at h2
 rw [hv] at h2
 injection h2 with h2
 subst h2
 exact .v _ _
/-- The closure, called while its activation leaves. -/
theorem AIr {clo:FuncId} {fc:Func} {crest:Code} {idc nc a b:Nat} {ta tb:TypeId} {pa pb:String} {fa fb:Array Edge} {caps:List AV} {H H2:List AObj}
  (hf:P.funcs[clo]? = some fc) (hb:fc.body=some (.seq (.region idc #[⟨some a,.call ⟨.builtin .recover,#[],#[]⟩,ta,pa,fa,none⟩,⟨some b,.assign (.tmp a),tb,pb,fb,none⟩] false) crest))
  (hn:fc.ntmps=nc) (hr:fc.results=#[]) (hcl:caps.length≤nc) (ha:a<nc) (hbn:b<nc) {u:FrameMode} {y:AV} (hu:RecovM u y)
  (hrest:∀d,AW P (d+1) crest ⟨nc,A7 b y.strip (A7 a y (argsF caps)),H,[],[],none⟩ (fun e s=>(e=.normal∨e=.ret)∧s.defs=[]∧s.up=H2))
  {G:Gh} {w:World} {vs:Array Value} (hvs:vs.size=caps.length) (hrep:∀(i:Nat) (z:AV) (v:Value),caps[i]? = some z→vs[i]? = some v→Rep G w (some (.slot (d+1) i)) z v) (hH:HeapRel G H w) (hT:TagOK G w) (hTop:GI.bd≤d):
  CallsDIn Fence.wide 0 P clo vs u w (fun e u' w'=>∃v,e=.returned v∧settle u'=.returning∧∃G',HeapRel G' H2 w'∧TagOK G' w'∧Keep (d+1) G w G' w'):=by
 refine callsDIn_of_wpSIn hf hb trivial fun c₀ cs hm=>?_
 have hst0:StRel (d+1) G ⟨nc,argsF caps,H,[],[],none⟩ { tmps:=vs++Array.replicate (fc.ntmps-vs.size) undef,defers:=[] } w:=by
  refine ⟨?_,fun s=>?_,by simpa using hH,(by rw [Hd hTop];rfl),(fun o ho=>by simp at ho),Mt,(fun o ho=>by simp at ho),hT,(fun l hl=>by cases hl),fun x hx=>?_,O1 hTop⟩
  ·simp only [M1,ef,hvs,hn];omega
  ·show Rep G w _ (caps.getD s (.v undef)) _
   rw [C9,Kw]
   rcases Bv s caps.length with h'|h'
   ·rw [Ab h',M0 (by omega),F9 (by omega)]
    exact hrep s _ _ (Ab h') (F9 (by omega))
   rw [Ho h',Qz (by omega)]
   simp only [Option.getD_none]
   have:((Array.replicate (fc.ntmps-vs.size) undef)[s-vs.size]?).getD undef=undef:=by
    rw [P0];split<;>rfl
   rw [this]
   exact .v _ _
  obtain ⟨i,hi⟩:=Cm hx
  have hob:=hH.obj i x hi
  show ObjLow H.length x
  rw [←hH.n]
  exact hob.low
 have main:∀(x:Value) (u':FrameMode),Rep G w none y x→settle u'=.returning →
   crest.wpSIn Fence.wide 0 P (bodyPostS P fc c₀ cs (fun e u' w'=>∃v,e=.returned v∧settle u'=.returning∧∃G',HeapRel G' H2 w'∧TagOK G' w'∧Keep (d+1) G w G' w'))
    (({ tmps:=vs++Array.replicate (fc.ntmps-vs.size) undef,defers:=[] }:Act).put (some a) x |>.put (some b) x) ({ c₀ with mode:=u' }::cs) w:=by
  intro x u' hx hset
  have h1:=hst0.put (s:=a) (y:=y) (v:=x) ha hx.lift
  have h2:=h1.put (s:=b) (y:=y.strip) (v:=x) hbn hx.strip
  refine wpSIn_of_wpIn rfl (wpIn_mono (hrest d G _ w h2) ?_)
  rintro e a' w' ⟨G1,s,hs,k1,e1,e2,e3,hK⟩
  have hup:s.up.length=H.length:=e1
  have hGn:G.n=H.length:=hH.n
  have fin:∃v,(results fc a'.tmps).run P w'=.ok v w'∧∃v',Ending.returned v=.returned v'∧settle u'=.returning∧∃G',HeapRel G' H2 w'∧TagOK G' w'∧Keep (d+1) G w G' w':=by
   obtain ⟨v,G2,hrun,hr2,hH2,hT2,hk2,hn2⟩:=(Res.nores (P:=P) (st:=s)).run hs (by rw [hr])
   refine ⟨v,hrun,v,rfl,hset,{ G2 with n:=s.up.length },by rw [←hK.2.2];exact hH2,⟨hT2.ex,hT2.obj,hT2.tail,hT2.globCut (by rw [hn2,hs.heap.n,Ai];omega)⟩,?_⟩
   have kk:=k1.trans hk2
   exact ⟨kk.fix,kk.slot,by rw [hGn,←hup];exact Ak _,kk.blk,kk.os,kk.tape,kk.output,kk.size,kk.old.cut (by rw [hn2,hs.heap.n,Ai];omega)⟩
  have hdf:a'.defers=[]:=by rw [hs.defs,hK.2.1,Hd hTop];rfl
  obtain ⟨v,hrun,hfin⟩:=fin
  cases e with
  | normal=>exact ⟨hdf,u',rfl,v,hrun,hfin⟩
  | ret=>exact ⟨hdf,u',rfl,v,hrun,hfin⟩
  | panic ch=>rcases hK.1 with h|h<;>cases h
  | exit i=>rcases hK.1 with h|h<;>cases h
  | goto i=>rcases hK.1 with h|h<;>cases h
  | outgrown=>rcases hK.1 with h|h<;>cases h
 refine wpSIn_seq (wpSIn_region ?_)
 show wpOpsSIn Fence.wide 0 P #[_,_] _ (List.range 2) _ _ _
 have hput:∀(A:Act) (x:Value),a<A.tmps.size→(A.put (some a) x).eval (.tmp a)=x:=fun A x h=>by
  show (A.tmps.setIfInBounds a x).getD a undef=x
  rw [H7 _ _ _ _ h,if_pos rfl]
 have hsz:a<(({ tmps:=vs++Array.replicate (fc.ntmps-vs.size) undef,defers:=[] }:Act)).tmps.size:=by
  rw [hst0.size];exact ha
 cases hu with
 | none =>
  have hrc:recoverD (c₀::cs)=none:=by simp [recoverD,hm]
  refine ⟨fun _ _=>trivial,?_⟩
  rw [if_pos (by simp [Region.wanted])]
  show (match recoverD (c₀::cs) with|some (v,cs')=>_|none=>_)
  rw [hrc]
  refine ⟨fun _ _=>trivial,?_⟩
  rw [if_pos (by simp [Region.wanted])]
  have hm':({ c₀ with mode:=.returning }:Frame)=c₀:=by rw [←hm]
  have:=main .nilIface .returning (.v _ _) rfl
  rw [hm'] at this
  show wpOpsSIn Fence.wide 0 P _ _ [] ((Act.put _ (some a) .nilIface).put (some b) ((Act.put _ (some a) .nilIface).eval (.tmp a))) _ _
  rw [hput _ _ hsz]
  exact this
 | panic t l hone =>
  have hrc:recoverD (c₀::cs)=some (.iface t (.agg l.toArray),{ c₀ with mode:=.panicking [{ v:=.iface t (.agg l.toArray),recovered:=true }] }::cs):=by
   simp [recoverD,hm,o8]
  refine ⟨fun _ _=>trivial,?_⟩
  rw [if_pos (by simp [Region.wanted])]
  show (match recoverD (c₀::cs) with|some (v,cs')=>_|none=>_)
  rw [hrc]
  refine ⟨fun _ _=>trivial,?_⟩
  rw [if_pos (by simp [Region.wanted])]
  have:=main (.iface t (.agg l.toArray)) (.panicking [{ v:=.iface t (.agg l.toArray),recovered:=true }]) (.iface _ _ _ _ (ga l hone)) rfl
  show wpOpsSIn Fence.wide 0 P _ _ [] ((Act.put _ (some a) (.iface t (.agg l.toArray))).put (some b) ((Act.put _ (some a) (.iface t (.agg l.toArray))).eval (.tmp a))) _ _
  rw [hput _ _ hsz]
  exact this
/-- How the body of a function behind its defer statement may end. -/
def KG (P:Program) (crest:Code) (nc a b:Nat) (caps:List AV) (rs:List ResultVar) (n:Nat) (post:AV→List AObj→Prop) (e:Exit) (s:St):Prop:=
 s.defs=[]∧∃(y:AV) (U O:List AObj) (r:AV),Recov e y∧U.length=s.up.length∧((∀z∈s.up,ObjLow s.up.length z)→∀z∈U,ObjLow U.length z) ∧
  (∀d,AW P (d+1) crest ⟨nc,A7 b y.strip (A7 a y (argsF caps)),s.up++s.own,[],[],none⟩ (fun e s2=>(e=.normal∨e=.ret)∧s2.defs=[]∧s2.up=U++O)) ∧
  Res P ⟨s.sz,s.fr,U,O,[],none⟩ rs r∧Low n r∧post r U
theorem jr {E:GlobInv} {d:Nat} (h:d=E.bd):@bb E d=E.bl:=if_pos h
/-- The same world, an activation of which has a deferred call of its own. -/
@[reducible] def Hr (d:Nat) (l:List Deferred):GlobInv:={ blocks:=GI.blocks,bd:=d,bl:=l }
theorem wl {G G':Gh} {w w':World} {l l':Option Loc} {o off:Nat} {v:Value} (h:Rep G w l (.ptr o off) v) (hn:G.n≤G'.n) (hb:∀o,o<G.n→G'.blk o=G.blk o):Rep G' w' l' (.ptr o off) v:=by
 cases h with
 | ptr _ _ _ ho=>rw [←hb o ho];exact .ptr _ _ _ (H5 ho hn)
/-- **A function whose first doing is to defer a closure that recovers.** -/
theorem ACall.guarded {g clo:FuncId} {fn fc:Func} {x y crest:Code} {id idc n nc a b:Nat} {o1:Oper} {s1:Nat} {ta tb ty:TypeId} {pa pb pos:String} {fa fb aft:Array Edge} {args:List AV} {os:List Nat} {H own0:List AObj} {fr0 fr1:Nat→AV} {rs:List ResultVar} {post:AV→List AObj→Prop}
  (hf:P.funcs[g]? = some fn) (hb:fn.body=some (.seq x (.seq (.region id #[o1,⟨none,.defer ⟨.value (.tmp s1),#[],#[]⟩,ty,pos,aft,none⟩] false) y))) (hrs:fn.results=rs.toArray) (hn:fn.ntmps=n) (hargs:args.length≤n)
  (hfc:P.funcs[clo]? = some fc) (hbc:fc.body=some (.seq (.region idc #[⟨some a,.call ⟨.builtin .recover,#[],#[]⟩,ta,pa,fa,none⟩,⟨some b,.assign (.tmp a),tb,pb,fb,none⟩] false) crest))
  (hnc:fc.ntmps=nc) (hrc:fc.results=#[]) (hcl:os.length≤nc) (ha:a<nc) (hbn:b<nc)
  (hcall:∀args w,(callFunc clo args).run P w=.ok (.enter clo args) w)
  (hx:∀d,AW P (d+1) x ⟨n,argsF args,H,[],[],none⟩ (fun e s=>e=.normal∧s=⟨n,fr0,H,own0,[],none⟩))
  (ho1:∀d,ARun P (d+1) #[o1,⟨none,.defer ⟨.value (.tmp s1),#[],#[]⟩,ty,pos,aft,none⟩] [o1] ⟨n,fr0,H,own0,[],none⟩ (fun s=>s=⟨n,fr1,H,own0,[],none⟩))
  (hev:(fr1 s1).strip=.fn (.func clo) [] (os.map fun o=>.ptr o 0))
  (hy:∀d l,@AW (Hr (d+1) l) P (d+1) y ⟨n,fr1,H,own0,[],none⟩ (@KG (Hr (d+1) l) P crest nc a b (os.map fun o=>.ptr o 0) rs H.length post)):ACall P g args H post:=by
 intro d G w vs hvs hrep hH hT hTop
 refine callsIn_of_wp_marks hf hb trivial ?_
 have hst:StRel (d+1) G ⟨n,argsF args,H,[],[],none⟩ { tmps:=vs++Array.replicate (fn.ntmps-vs.size) undef,defers:=[] } w:=by
  refine ⟨?_,fun s=>?_,by simpa using hH,(by rw [Hd hTop];rfl),(fun o ho=>by simp at ho),Mt,(fun o ho=>by simp at ho),hT,(fun l hl=>by cases hl),fun x hx=>?_,O1 hTop⟩
  ·simp only [M1,ef,hvs,hn];omega
  ·show Rep G w _ (args.getD s (.v undef)) _
   rw [C9,Kw]
   rcases Bv s args.length with h'|h'
   ·rw [Ab h',M0 (by omega),F9 (by omega)]
    exact hrep s _ _ (Ab h') (F9 (by omega))
   rw [Ho h',Qz (by omega)]
   simp only [Option.getD_none]
   have:((Array.replicate (fn.ntmps-vs.size) undef)[s-vs.size]?).getD undef=undef:=by
    rw [P0];split<;>rfl
   rw [this]
   exact .v _ _
  obtain ⟨i,hi⟩:=Cm hx
  have hob:=hH.obj i x hi
  show ObjLow H.length x
  rw [←hH.n]
  exact hob.low
 have hGn:G.n=H.length:=hH.n
 refine wpIn_seq (wpIn_mono (hx d G _ w hst) ?_)
 rintro e0 a0 w0 ⟨G0,s0,h0,k0,u1,u2,u3,rfl,rfl⟩
 refine wpIn_seq (wpIn_region ?_)
 show wpOpsIn _ 0 P _ _ ([0]++[1]) a0 w0
 refine Kc (Q2:=fun e a' w'=>e=.normal∧Post (d+1) ⟨n,fr0,H,own0,[],none⟩ G0 w0 (fun s=>s=⟨n,fr1,H,own0,[],none⟩) a' w') ?_ ?_ ?_ [0] a0 w0 (ho1 d G0 a0 w0 h0 [0] rfl)
 rotate_left
 ·rintro ch a1 w1 ⟨h,_⟩
  cases h
 ·rintro a1 w1 ⟨h,_⟩
  cases h
 rintro a1 w1 ⟨_,G1,s1',h1,k1,v1,v2,v3,rfl⟩
 refine ⟨fun _ _=>trivial,?_⟩
 have hfr:=h1.eval (.tmp s1)
 have hev':St.ev ⟨n,fr1,H,own0,[],none⟩ (.tmp s1)=.fn (.func clo) [] (os.map fun o=>.ptr o 0):=hev
 rw [hev'] at hfr
 generalize hfv:a1.eval (.tmp s1)=fv at hfr
 cases hfr with
 | fn _ _ _ _ va vc hna hnc' r1 r2 =>
  have hva:va=#[]:=by
   apply Array.eq_empty_of_size_eq_zero
   simpa using hna
  subst hva
  have hex:((⟨none,.defer ⟨.value (.tmp s1),#[],#[]⟩,ty,pos,aft,none⟩:Oper).semAt (none:Option Nat) a1.eval).run P w1=.ok (.defer { target:=.fn (.func clo) vc,args:=#[] }) w1:=by
   rw [Oper.semAt_none]
   show ((do pure (.defer (←resolve a1.eval ⟨.value (.tmp s1),#[],#[]⟩ ty))):Sem Next).run P w1=_
   simp [resolve,hfv,Deferred.ofValue]
  show Oper.uponIn _ _ _ _ _ _ _ (((⟨none,.defer ⟨.value (.tmp s1),#[],#[]⟩,ty,pos,aft,none⟩:Oper).semAt (none:Option Nat) a1.eval).run P w1)
  rw [hex]
  -- the state behind the defer statement
  have hB:a1.defers=[]:=by rw [h1.defs,Hd hTop];rfl
  let D:Deferred:={ target:=.fn (.func clo) vc,args:=#[] }
  have h2:@StRel (Hr (d+1) [D]) (d+1) G1 ⟨n,fr1,H,own0,[],none⟩ (({ a1 with defers:=D::a1.defers }:Act).put none undef) w1:=by
   refine @StRel.mk (Hr (d+1) [D]) _ _ _ _ _ h1.size h1.slots h1.heap ?_ h1.defsAt h1.defsNodup h1.defsGe (TagOK.to (GI1:=GI) (GI2:=Hr (d+1) [D]) rfl h1.tags) h1.rnd h1.low (Ak _)
   show D::a1.defers=[]++@bb (Hr (d+1) [D]) (d+1)
   rw [hB,jr (E:=Hr (d+1) [D]) (d:=d+1) rfl]
   rfl
  have hw:=hy d [D] G1 _ w1 h2
  show y.wpIn Fence.wide 0 P _ _ w1
  refine wpIn_mono hw ?_
  rintro e a2 w2 ⟨G2,s,h3,k2,t1,t2,t3,hdf,yv,U,O,r,hrec,hU,hlowU,hcrest,hres,hlow,hpost⟩
  have hup:s.up.length=H.length:=t1
  have hlowU:=hlowU (@StRel.low (Hr (d+1) [D]) _ _ _ _ _ h3)
  have k012:Keep (d+1) G w G2 w2:=(k0.trans k1).trans k2
  have hdefers:a2.defers=[D]:=by
   rw [@StRel.defs (Hr (d+1) [D]) _ _ _ _ _ h3,hdf,jr (E:=Hr (d+1) [D]) (d:=d+1) rfl]
   rfl
  have go:∀u:FrameMode,RecovM u yv→u≠.run→LeavesInM Fence.wide 0 P fn a2.tmps (fun e w'=>∃(v:Value) (G':Gh) (r:AV) (H':List AObj),e=.returned v∧Rep G' w' (some (.ret d)) r v∧HeapRel G' H' w'∧TagOK G' w'∧Keep (d+1) G w G' w'∧H'.length=H.length∧post r H') a2.defers u w2:=by
   intro u hu hur
   rw [hdefers]
   refine ⟨hur,.inr ⟨fun h=>by simp [Fence.wide] at h,.func clo,vc,clo,#[]++vc,rfl,?_,fun _ _=>trivial,?_⟩⟩
   ·show (callFunc clo (#[]++vc)).run P w2=_
    exact hcall _ _
   refine CallsDIn.mono (@AIr (Hr (d+1) [D]) P (d+1) clo fc crest idc nc a b ta tb pa pb fa fb (os.map fun o=>.ptr o 0) (s.up++s.own) (U++O) hfc hbc hnc hrc (by simpa using hcl) ha hbn u yv hu hcrest G2 w2 (#[]++vc) (by simpa using hnc') (fun i z v hz hv=>?_) (@StRel.heap (Hr (d+1) [D]) _ _ _ _ _ h3) (@StRel.tags (Hr (d+1) [D]) _ _ _ _ _ h3) (Ak _)) ?_
   ·rw [Cf,F6] at hz
    obtain ⟨o,ho,rfl⟩:=hz
    exact wl (r2 i _ v (by simp [ho]) (by simpa using hv)) k2.n k2.blk
   rintro e' u' w3 ⟨v,rfl,hset,G3,hH3,hT3,hk3⟩
   show LeavesInM Fence.wide 0 P fn a2.tmps _ [] (settle u') w3
   rw [hset]
   have h4:=@StRel.called (Hr (d+1) [D]) _ _ _ _ _ _ _ _ _ _ h3 hH3 hT3 hk3 rfl hU (fun o ho=>by rw [hdf] at ho;cases ho) hlowU
   have h5:StRel (d+1) G3 ⟨s.sz,s.fr,U,O,[],none⟩ { tmps:=a2.tmps,defers:=[] } w3:=by
    have q1:=@StRel.size (Hr (d+1) [D]) _ _ _ _ _ h4
    have q2:=@StRel.slots (Hr (d+1) [D]) _ _ _ _ _ h4
    have q3:=@StRel.heap (Hr (d+1) [D]) _ _ _ _ _ h4
    refine ⟨q1,q2,q3,(by rw [Hd hTop];rfl),(fun o ho=>by cases ho),Mt,(fun o ho=>by cases ho),TagOK.to (GI1:=Hr (d+1) [D]) (GI2:=GI) rfl hT3,(fun l hl=>by cases hl),hlowU,O1 hTop⟩
   obtain ⟨v',G4,hrun,hr4,hH4,hT4,hk4,hn4⟩:=hres.run h5 hrs
   refine ⟨v',hrun,v',{ G4 with n:=U.length },r,U,rfl,hr4.cut (by rw [hU,hup];exact hlow),hH4,⟨hT4.ex,hT4.obj,hT4.tail,hT4.globCut (by rw [hn4,hH3.n,Ai];omega)⟩,?_,by rw [hU,hup],hpost⟩
   have kk:=(k012.trans (hk3.less (Ks _))).trans hk4
   exact ⟨kk.fix,kk.slot,by rw [hGn,←hup,←hU];exact Ak _,kk.blk,kk.os,kk.tape,kk.output,kk.size,kk.old.cut (by rw [hn4,hH3.n,Ai];omega)⟩
  cases hrec with
  | normal=>exact go .returning .none (by simp)
  | ret=>exact go .returning .none (by simp)
  | panic t l hone=>exact go _ (.panic t l hone) (by simp)
/-- An end without a panic, where the closure leaves all as it is. -/
theorem KG.fin {P:Program} {crest:Code} {nc a b n:Nat} {caps:List AV} {rs:List ResultVar} {post:AV→List AObj→Prop} {e:Exit} {sz:Nat} {fr:Nat→AV} {up own:List AObj} {r:AV} (he:Recov e (.v .nilIface)) (hres:Res P ⟨sz,fr,up,own,[],none⟩ rs r)
  (hc:∀d,AW P (d+1) crest ⟨nc,A7 b (.v .nilIface) (A7 a (.v .nilIface) (argsF caps)),up++own,[],[],none⟩ (fun e s2=>(e=.normal∨e=.ret)∧s2.defs=[]∧s2.up=up++own)) (hp:post r up) (hlow:Low n r:=by simp):
  KG P crest nc a b caps rs n post e ⟨sz,fr,up,own,[],none⟩:=⟨rfl,.v .nilIface,up,own,r,he,rfl,fun h=>h,hc,hres,hlow,hp⟩
/-- A call behind which the objects are some of many. -/
theorem R.callEx {ops:Array Oper} {sz s:Nat} {fr:Nat→AV} {up own:List AObj} {dfs:List Nat} {rnd:Option Nat} {Q:St→Prop} {rest:List Oper} {ty:TypeId} {pos:String} {aft:Array Edge} {ι:Type} {g:FuncId} {xs:List Operand} {ats:Array TypeId} {args:List AV} {r:AV} (up' own':ι→List AObj) (hcall:∀args w,(callFunc g args).run P w=.ok (.enter g args) w)
  (h:ACall P g args (up++own) (fun y H'=>y=r∧∃i,H'=up' i++own' i)) (hl:∀i,(up' i).length=up.length) (hlow:∀i,(∀x∈up,ObjLow up.length x)→∀x∈up' i,ObjLow up.length x)
  (hr:∀i,ARun P d ops rest ⟨sz,A7 s r fr,up' i,own' i,dfs,rnd⟩ Q) (hd:∀i,∀o∈dfs,(up++own)[o]? = some .defs→(up' i++own' i)[o]? = some .defs:=by simp)
  (ha:xs.map (Bc fr)=args:=by exact sL0) (hs:Nat.blt s sz=true:=by rfl):
  ARun P d ops (⟨some s,.call ⟨.value (.func g),xs.toArray,ats⟩,ty,pos,aft,none⟩::rest) ⟨sz,fr,up,own,dfs,rnd⟩ Q:=by
 refine Wz rfl (t6 (st:=⟨sz,fr,up,own,dfs,rnd⟩) (Q:=fun st=>∃i,st=⟨sz,A7 s r fr,up' i,own' i,dfs,rnd⟩) (f:=.func g) (first:=[]) (caps:=[]) hcall rfl (by rw [←ha];simp [St.ev]<;>rfl) h (by simpa using hs) (fun y H' _ hy=>?_)) (fun s' e=>by obtain ⟨i,rfl⟩:=e;exact hr i)
 obtain ⟨rfl,i,rfl⟩:=hy
 exact ⟨up' i,own' i,rfl,hl i,fun h=>by rw [hl i] at h ⊢;exact hlow i h,fun hdd o ho=>hd i o ho (hdd o ho),i,rfl⟩
end
end Go.SX
namespace Go.SX
variable [GI:GlobInv]
variable {fr:Nat→AV} {id:Nat} {l:List Oper}
section
variable {P:Program} {d:Nat} {sz:Nat} {up own:List AObj} {dfs:List Nat} {rnd:Option Nat}

theorem ADraw.split {l0:List Oper} {E:List Oper→(Nat→AV)→Prop}:∀(k:Nat) (l:List Oper) (fr:Nat→AV),ADraw P d l0 sz up own dfs rnd E k l fr →
  ∃l2 F2,ADraw P d l0 sz up own dfs rnd (fun l' f=>l'=l2∧f=F2) k l fr∧E l2 F2
 | 0,l,fr,h=>⟨l,fr,⟨rfl,rfl⟩,h⟩
 | _+1,[],_,h=>h.elim
 | k+1,_::l,_,⟨s,y,h1,h2,h3,h4⟩=>by
  obtain ⟨l2,F2,a,b⟩:=ADraw.split k l _ h4
  exact ⟨l2,F2,⟨s,y,h1,h2,h3,a⟩,b⟩

theorem AW.drawQ {id k:Nat} {l:List Oper} {fr:Nat→AV} {K:Exit→St→Prop} (M:List Nat) (hm:P.follows .mixedOrders=true) (hok:okY l [] (Dj [.q k [] []]) M=true) (h:ADraw P d l sz up own dfs rnd (fun l' f=>ARun P d l.toArray l' ⟨sz,f,up,own,dfs,rnd⟩ (K .normal)) k l fr):
  AW P d (.region id l.toArray true) ⟨sz,fr,up,own,dfs,rnd⟩ K:=by
 obtain ⟨l2,F2,h1,h2⟩:=ADraw.split k l fr h
 exact AW.chainY (tn:=[]) (S:=[.q k [] []]) (up:=fun _=>up) (own:=fun _=>own) M hm hok rfl rfl (fun _=>rfl) ⟨by simp,l2,F2,fun _ _ _=>h1,h2⟩
theorem W.drawQ {y:Code} {K:Exit→St→Prop} (M:List Nat) (k:Nat) (hm:P.follows .mixedOrders=true) (hok:okY l [] (Dj [.q k [] []]) M=true) (h:ADraw P d l sz up own dfs rnd (fun l' f=>ARun P d l.toArray l' ⟨sz,f,up,own,dfs,rnd⟩ (fun s=>AW P d y s K)) k l fr):
  AW P d (.seq (.region id l.toArray true) y) ⟨sz,fr,up,own,dfs,rnd⟩ K:=P7 (AW.drawQ M hm hok h)
theorem W.drawQ0 {K:Exit→St→Prop} (M:List Nat) (k:Nat) (hm:P.follows .mixedOrders=true) (hok:okY l [] (Dj [.q k [] []]) M=true) (h:ADraw P d l sz up own dfs rnd (fun l' f=>ARun P d l.toArray l' ⟨sz,f,up,own,dfs,rnd⟩ (K .normal)) k l fr):
  AW P d (.region id l.toArray true) ⟨sz,fr,up,own,dfs,rnd⟩ K:=AW.drawQ M hm hok h
end
end Go.SX
namespace Go.SX
def De:=@W.drawQ
def gb:=@W.drawQ0
end Go.SX


namespace Go.SX
variable [GI:GlobInv]
open Classical
section
variable {P:Program} {d:Nat}
theorem bj {ops:Array Oper} {i:Nat} {o:Oper} {st st':St} {Q:Exit→Act→World→Prop} {K:Act→World→Prop} {G:Gh} {a:Act} {w:World} (ho:ops[i]? = some o) (hg:o.guard=none) (hn:st.rnd=none) (h:AOp P d o st (·=st')) (hr:StRel d G st a w)
  (hk:∀G1 a1 w1,StRel d G1 st' a1 w1→Keep d G w G1 w1→K a1 w1):wpOpIn Fence.wide 0 P ops Q i K a w:=by
 have h1:=h G a w hr Q
 rw [hn] at h1
 refine Ph ho hg (M4 ?_ h1)
 rintro a1 w1 ⟨G1,s,hs,k,_,_,_,rfl⟩
 exact hk G1 a1 w1 hs k
def AB0 (e0 e1 e2 e3:Array Edge):Bool:=
 (e0.toList.all fun e => !Region.binds .any e)&&(e1.toList.all fun e => !Region.binds .any e || Nat.beq e.on 0)&&(e2.toList.all fun e => !Region.binds .any e || Nat.beq e.on 0)&&(e3.toList.all fun e => !Region.binds .any e || Nat.blt e.on 3) &&
 (e1.toList.any fun e=>Region.binds .any e&&Nat.beq e.on 0)&&(e2.toList.any fun e=>Region.binds .any e&&Nat.beq e.on 0)&&(e3.toList.any fun e=>Region.binds .any e&&Nat.beq e.on 0)&&(e3.toList.any fun e=>Region.binds .any e&&Nat.beq e.on 1)&&(e3.toList.any fun e=>Region.binds .any e&&Nat.beq e.on 2)
theorem W.flip {id:Nat} {y:Code} {sz:Nat} {fr:Nat→AV} {up own:List AObj} {dfs:List Nat} {K:Exit→St→Prop} {s2 s3 t:Nat} {ta t1 t2 t3:TypeId} {pa p1 p2 p3:String} {e0 e1 e2 e3:Array Edge} (hm:P.follows .mixedOrders=true) (hok:AB0 e0 e1 e2 e3=true)
  (hz:∀w,(zeroValue t).run P w=.ok (.bool false) w) (hsz:∀w,(sizeOf t).run P w=.ok 1 w) (hagg:∀w,(isAgg t).run P w=.ok false w)
  (h:∀b:Bool,AW P d y ⟨sz,A7 s3 (.v (.bool b)) (A7 s2 (.ptr (up.length+own.length) 0) fr),up,own++[.cells t [.v (.bool b)]],dfs,none⟩ K) (hs2:Nat.blt s2 sz=true:=by rfl) (hs3:Nat.blt s3 sz=true:=by rfl):
  AW P d (.seq (.region id #[⟨some s2,.alloc t,ta,pa,e0,none⟩,⟨none,.store t (.tmp s2) (.const (.bool true)),t1,p1,e1,none⟩,⟨none,.store t (.tmp s2) (.const (.bool false)),t2,p2,e2,none⟩,⟨some s3,.load t (.tmp s2),t3,p3,e3,none⟩] true) y) ⟨sz,fr,up,own,dfs,none⟩ K:=by
 refine P7 ?_
 unfold AB0 at hok
 simp only [As] at hok
 obtain ⟨⟨⟨⟨⟨⟨⟨⟨f0,f1⟩,f2⟩,f3⟩,g1⟩,g2⟩,g30⟩,g31⟩,g32⟩:=hok
 have has:∀{es:Array Edge} {m:Nat},(es.toList.any fun e=>Region.binds .any e&&Nat.beq e.on m)=true→∃e∈es,Region.binds .any e=true∧e.on=m:=fun {es m} h=>by
  obtain ⟨e,he,h⟩:=K7.1 h
  rw [As] at h
  exact ⟨e,by simpa using he,h.1,Iy h.2⟩
 have k0:∀e∈e0,Region.binds .any e=true→False:=fun e he hb=>by
  have:=B2.1 f0 e (by simpa using he)
  rw [hb] at this
  cases this
 have k1:∀e∈e1,Region.binds .any e=true→e.on=0:=fun e he hb=>by
  have:=B2.1 f1 e (by simpa using he)
  rw [hb] at this
  exact Iy (by simpa using this)
 have k2:∀e∈e2,Region.binds .any e=true→e.on=0:=fun e he hb=>by
  have:=B2.1 f2 e (by simpa using he)
  rw [hb] at this
  exact Iy (by simpa using this)
 have k3:∀e∈e3,Region.binds .any e=true→e.on<3:=fun e he hb=>by
  have:=B2.1 f3 e (by simpa using he)
  rw [hb] at this
  simpa using this
 have q2:s2<sz:=by simpa using hs2
 have q3:s3<sz:=by simpa using hs3
 intro G0 a0 w0 hr0
 refine wpIn_region_any hm ?_
 obtain ⟨ops,hops⟩:∃ops:Array Oper,ops=#[⟨some s2,.alloc t,ta,pa,e0,none⟩,⟨none,.store t (.tmp s2) (.const (.bool true)),t1,p1,e1,none⟩,⟨none,.store t (.tmp s2) (.const (.bool false)),t2,p2,e2,none⟩,⟨some s3,.load t (.tmp s2),t3,p3,e3,none⟩]:=⟨_,rfl⟩
 rw [←hops]
 have o0:ops[0]? = some ⟨some s2,.alloc t,ta,pa,e0,none⟩:=by rw [hops];rfl
 have o1:ops[1]? = some ⟨none,.store t (.tmp s2) (.const (.bool true)),t1,p1,e1,none⟩:=by rw [hops];rfl
 have o2:ops[2]? = some ⟨none,.store t (.tmp s2) (.const (.bool false)),t2,p2,e2,none⟩:=by rw [hops];rfl
 have o3:ops[3]? = some ⟨some s3,.load t (.tmp s2),t3,p3,e3,none⟩:=by rw [hops];rfl
 have hz4:ops.size=4:=by rw [hops];rfl
 have hq4:∀{listed:Array Bool} {q:Nat},q∈Region.ready .any ops listed→q=0∨q=1∨q=2∨q=3:=fun {listed q} hq=>by
  obtain ⟨_,o,ho,_⟩:=mem_ready.1 hq
  have:=(On.1 ho).1
  omega
 rw [hz4,show Array.replicate 4 false=#[false,false,false,false] from rfl]
 let S:Bool→St:=fun b=>⟨sz,A7 s2 (.ptr (up.length+own.length) 0) fr,up,own++[.cells t [.v (.bool b)]],dfs,none⟩
 let QQ:Exit→Act→World→Prop:=fun e=>Post d ⟨sz,fr,up,own,dfs,none⟩ G0 w0 (V4 (fun s=>AW P d y s K) K e)
 have hown:∀b,(S b).own[own.length]? = some (.cells t [.v (.bool b)]):=fun b=>by simp [S]
 have hps:∀b,(S b).ev (.tmp s2)=.ptr ((S b).up.length+own.length) 0:=fun b=>by simp [S,St.ev,Bc,A7,AV.strip]
 have st:∀b c:Bool,∀{ty pos aft},AOp P d ⟨none,.store t (.tmp s2) (.const (.bool c)),ty,pos,aft,none⟩ (S b) (·=S c):=fun b c {ty pos aft}=>by
  refine bi (AAh (y:=.v (.bool c)) hsz (hps b) (hown b) rfl rfl rfl (by simp [AV.cells])) ?_
  simp only [S]
  congr 1
  simp [Cu,AV.cells]
 have ld:∀b:Bool,AOp P d ⟨some s3,.load t (.tmp s2),t3,p3,e3,none⟩ (S b) (·=(S b).set s3 (.v (.bool b))):=fun b=>by
  refine AOp.ofV (y:=.v (.bool b)) rfl q3 (OpV.loadObj (y:=.v (.bool b)) (t':=t) (cs:=[.v (.bool b)]) hagg (hps b) ?_ rfl)
  simp [S]
 -- all three have run
 have ph3:∀(b:Bool) (G:Gh) (a:Act) (w:World),StRel d G (S b) a w→Keep d G0 w0 G w→wpAnyIn Fence.wide 0 P .any ops QQ 1 #[true,true,true,false] a w:=fun b G a w hr hk=>by
  refine ⟨fun h0=>?_,fun q hq=>?_⟩
  ·have:3∈Region.ready .any ops #[true,true,true,false]:=mem_ready.2 ⟨rfl,_,o3,fun e he hb=>by
    have:=k3 e he hb
    have h3:e.on=0∨e.on=1∨e.on=2:=by omega
    rcases h3 with h|h|h<;>rw [h]<;>rfl⟩
   rw [h0] at this;cases this
  have h1:=(mem_ready.1 hq).1
  rcases hq4 hq with rfl|rfl|rfl|rfl
  ·cases h1
  ·cases h1
  ·cases h1
  refine bj o3 rfl rfl (ld b) hr fun G1 a1 w1 hr1 hk1=>?_
  refine ⟨ni.2 fun j hj=>?_,G1,_,hr1,hk.trans hk1,rfl,rfl,rfl,h b⟩
  have h1:=(mem_ready.1 hj).1
  rcases hq4 hj with rfl|rfl|rfl|rfl<;>cases h1
 have ph2:∀(b c:Bool) (G:Gh) (a:Act) (w:World),StRel d G (S b) a w→Keep d G0 w0 G w→wpAnyIn Fence.wide 0 P .any ops QQ 2 #[true,c,!c,false] a w:=fun b c G a w hr hk=>by
  refine ⟨fun h0=>?_,fun q hq=>?_⟩
  ·cases c with
   | true =>
    have:2∈Region.ready .any ops #[true,true,false,false]:=mem_ready.2 ⟨rfl,_,o2,fun e he hb=>by rw [k2 e he hb];rfl⟩
    rw [show (!true)=false from rfl] at h0
    rw [h0] at this;cases this
   | false =>
    have:1∈Region.ready .any ops #[true,false,true,false]:=mem_ready.2 ⟨rfl,_,o1,fun e he hb=>by rw [k1 e he hb];rfl⟩
    rw [show (!false)=true from rfl] at h0
    rw [h0] at this;cases this
  obtain ⟨h1,o,ho,he⟩:=mem_ready.1 hq
  rcases hq4 hq with rfl|rfl|rfl|rfl
  ·cases h1
  ·cases c with
   | true=>cases h1
   | false=>exact bj o1 rfl rfl (st b true) hr fun G1 a1 w1 hr1 hk1=>ph3 true G1 a1 w1 hr1 (hk.trans hk1)
  ·cases c with
   | true=>exact bj o2 rfl rfl (st b false) hr fun G1 a1 w1 hr1 hk1=>ph3 false G1 a1 w1 hr1 (hk.trans hk1)
   | false=>cases h1
  rw [o3] at ho
  injection ho with ho
  subst ho
  cases c with
  | true =>
   obtain ⟨e,a1,a2,a3⟩:=has g32
   have:=he e a1 a2
   rw [a3] at this;cases this
  | false =>
   obtain ⟨e,a1,a2,a3⟩:=has g31
   have:=he e a1 a2
   rw [a3] at this;cases this
 have ph1:∀(G:Gh) (a:Act) (w:World),StRel d G (S false) a w→Keep d G0 w0 G w→wpAnyIn Fence.wide 0 P .any ops QQ 3 #[true,false,false,false] a w:=fun G a w hr hk=>by
  refine ⟨fun h0=>?_,fun q hq=>?_⟩
  ·have:1∈Region.ready .any ops #[true,false,false,false]:=mem_ready.2 ⟨rfl,_,o1,fun e he hb=>by rw [k1 e he hb];rfl⟩
   rw [h0] at this;cases this
  obtain ⟨h1,o,ho,he⟩:=mem_ready.1 hq
  rcases hq4 hq with rfl|rfl|rfl|rfl
  ·cases h1
  ·exact bj o1 rfl rfl (st false true) hr fun G1 a1 w1 hr1 hk1=>ph2 true true G1 a1 w1 hr1 (hk.trans hk1)
  ·exact bj o2 rfl rfl (st false false) hr fun G1 a1 w1 hr1 hk1=>ph2 false false G1 a1 w1 hr1 (hk.trans hk1)
  rw [o3] at ho
  injection ho with ho
  subst ho
  obtain ⟨e,a1,a2,a3⟩:=has g31
  have:=he e a1 a2
  rw [a3] at this;cases this
 have hdr:=hr0.drew ({ w0 with drawn:=w0.drawn+1 }).drawn
 refine ⟨fun h0=>?_,fun q hq=>?_⟩
 ·have:0∈Region.ready .any ops #[false,false,false,false]:=mem_ready.2 ⟨rfl,_,o0,fun e he hb=>(k0 e he hb).elim⟩
  rw [h0] at this;cases this
 obtain ⟨h1,o,ho,he⟩:=mem_ready.1 hq
 rcases hq4 hq with rfl|rfl|rfl|rfl
 ·refine bj (st':=S false) o0 rfl rfl ?_ (hr0.drew _) fun G1 a1 w1 hr1 hk1=>ph1 G1 a1 w1 hr1 (((Lw G0 w0 _).keep d).trans hk1)
  exact AOp.alloc (z:=.bool false) hz rfl rfl q2
 ·rw [o1] at ho
  injection ho with ho
  subst ho
  obtain ⟨e,a1,a2,a3⟩:=has g1
  have:=he e a1 a2
  rw [a3] at this;cases this
 ·rw [o2] at ho
  injection ho with ho
  subst ho
  obtain ⟨e,a1,a2,a3⟩:=has g2
  have:=he e a1 a2
  rw [a3] at this;cases this
 rw [o3] at ho
 injection ho with ho
 subst ho
 obtain ⟨e,a1,a2,a3⟩:=has g30
 have:=he e a1 a2
 rw [a3] at this;cases this
end
end Go.SX
namespace Go.SX
variable [GI:GlobInv]
variable {P:Program} {d:Nat} {l0:List Oper} {kd:Nat} {ops:Array Oper} {rest:List Oper} {sz:Nat} {fr:Nat→AV} {up own:List AObj} {dfs:List Nat} {rnd:Option Nat} {Q:St→Prop} {E:List Oper→(Nat→AV)→Prop} {s:Nat} {ty:TypeId} {pos:String} {aft:Array Edge}
theorem OpV.neqNil0 {dst:Option Nat} {gd:Option (Nat×Bool)} {st:St} {t u:TypeId} {x:Operand} {ms:Array (String×TypeId)} (hu:P.underlying t=some (.interface ms)) (hx:st.ev x=.v .nilIface):OpV P d ⟨dst,.binOp .neq t x (.const .nilIface) u,ty,pos,aft,gd⟩ st (.v (.bool false)):=
 Cx (by intro c h;cases h) fun G a w h=>by
  refine ⟨.bool false,?_,.v _ _⟩
  have h1:=Du h hx
  have hq:∀n:Nat,(Op.equalIn (n+1) t .nilIface .nilIface).run P w=.ok true w:=fun n=>by simp [Op.equalIn,run_underlying hu]
  have he:a.eval (.const .nilIface)=.nilIface:=rfl
  simp [execOp,h1,he,eqGuard,binOp,Op.equal,Op.maxDepth,hq 9999]
theorem R.neqNil0 {t u:TypeId} {x:Operand} {ms:Array (String×TypeId)} (hu:P.underlying t=some (.interface ms)) (hr:ARun P d ops rest ⟨sz,A7 s (.v (.bool false)) fr,up,own,dfs,rnd⟩ Q) (hx:Bc fr x=.v .nilIface:=by exact sL0) (hs:Nat.blt s sz=true:=by rfl):
  ARun P d ops (⟨some s,.binOp .neq t x (.const .nilIface) u,ty,pos,aft,none⟩::rest) ⟨sz,fr,up,own,dfs,rnd⟩ Q:=X2 rfl rfl hs (OpV.neqNil0 hu hx) hr
theorem D.makeFunc {f:Fn} {as cs:List Operand} {ya yc:List AV} (hr:ADraw P d l0 sz up own dfs rnd E kd rest (A7 s (.fn f ya yc) fr)) (ha:as.map (Bc fr)=ya:=by exact sL0) (hc:cs.map (Bc fr)=yc:=by exact sL0) (hs:Nat.blt s sz=true:=by rfl):
  ADraw P d l0 sz up own dfs rnd E (kd+1) (⟨some s,.makeFunc f as.toArray cs.toArray,ty,pos,aft,none⟩::rest) fr:=
 ⟨s,_,rfl,by simpa using hs,fun f0 hag=>OpV.makeFunc ((we hag (by intro x hx;simp [Op.operands,Call.operands,hx])).trans ha) ((we hag (by intro x hx;simp [Op.operands,Call.operands,hx])).trans hc),hr⟩
end Go.SX

