/- On the way (part 3). -/
import Derived.RecoverIn
import Derived.LaidEql
import Derived.Test.YtlafnblklafbkaaGreatDoorMigParsesCardSaidPart2
set_option linter.all false
namespace Go.SX
variable [GI:GlobInv]
open Classical
variable {H:List AObj} {args:List AV} {g:FuncId} {id n:Nat} {rest:List Oper} {s st:St}
/-- What a panic that nobody has recovered from bears. -/
abbrev Jl (x:Value):List PanicEntry:=[{ v:=x,recovered:=false }]
/-- A function's contract: it hands back what post tells, or panics with what pp tells. -/
def ACallP (P:Program) (g:FuncId) (args:List AV) (H:List AObj) (post:AV→List AObj→Prop) (pp:Value→List AObj→Prop):Prop:=
 ∀(d:Nat) (G:Gh) (w:World) (vs:Array Value),vs.size=args.length→(∀(i:Nat) (y:AV) (u:Value),args[i]? = some y→vs[i]? = some u→Rep G w (some (.slot (d+1) i)) y u)→HeapRel G H w→TagOK G w→GI.bd≤d →
  CallsIn Fence.wide 0 P g vs w (fun e w'=>(∃(v:Value) (G':Gh) (r:AV) (H':List AObj),e=.returned v∧Rep G' w' (some (.ret d)) r v∧HeapRel G' H' w'∧TagOK G' w'∧Keep (d+1) G w G' w'∧H'.length=H.length∧post r H') ∨
   ∃(x:Value) (G':Gh) (H':List AObj),e=.panicked (Jl x)∧HeapRel G' H' w'∧TagOK G' w'∧Keep (d+1) G w G' w'∧H'.length=H.length∧pp x H')
theorem ACallP.mono {P:Program} {g:FuncId} {args:List AV} {H:List AObj} {post post':AV→List AObj→Prop} {pp pp':Value→List AObj→Prop} (h:ACallP P g args H post pp) (h1:∀r H',post r H'→post' r H') (h2:∀x H',pp x H'→pp' x H'):ACallP P g args H post' pp':=
 fun d G w vs a1 a2 a3 a4 a5=>(h d G w vs a1 a2 a3 a4 a5).mono fun e w' he=>by
  rcases he with ⟨v,G',r,H',a,b,c,d',e',f,p⟩|⟨x,G',H',a,c,d',e',f,p⟩
  ·exact .inl ⟨v,G',r,H',a,b,c,d',e',f,h1 _ _ p⟩
  exact .inr ⟨x,G',H',a,c,d',e',f,h2 _ _ p⟩
/-- A function that does not panic here. -/
theorem ACall.ofP {P:Program} {g:FuncId} {args:List AV} {H:List AObj} {post:AV→List AObj→Prop} (h:ACallP P g args H post (fun _ _=>False)):ACall P g args H post:=
 fun d G w vs a1 a2 a3 a4 a5=>(h d G w vs a1 a2 a3 a4 a5).mono fun e w' he=>by
  rcases he with h|⟨_,_,_,_,_,_,_,_,h⟩
  ·exact h
  exact h.elim
section
variable {P:Program} {d:Nat} {ops:Array Oper}
/-- Operations of which the first ones are told up to their end. -/
theorem Jv {F:Fence} {Q Q2:Exit→Act→World→Prop} {i2:List Nat} (hn:∀a w,Q2 .normal a w→wpOpsIn F 0 P ops Q i2 a w) (hp:∀ch a w,Q2 (.panic ch) a w→Q (.panic ch) a w) (ho:∀a w,Q2 .outgrown a w→Q .outgrown a w):
  ∀(i1:List Nat) (a:Act) (w:World),wpOpsIn F 0 P ops Q2 i1 a w→wpOpsIn F 0 P ops Q (i1++i2) a w
 | [],a,w,hh=>hn _ _ hh
 | i::rest,a,w,hh=>by
  rw [Ey]
  simp only [wpOpsIn] at hh ⊢
  cases hio:ops[i]? with
  | none=>simp only [hio] at hh ⊢;exact Jv hn hp ho rest a w hh
  | some o =>
   simp only [hio] at hh ⊢
   split
   ·rename_i hw
    simp only [hw,if_true] at hh
    refine ⟨hh.1,?_⟩
    have hh:=hh.2
    generalize (o.semAt F.round a.eval).run P w=r at *
    cases r with
    | ok x w' =>
     cases x<;>simp only [Oper.uponIn] at hh ⊢ <;>
      first
       | exact Jv hn hp ho rest _ _ hh
       | exact ⟨hh.1,CallsIn.mono hh.2 (fun e w'' he=>by
         cases e<;>first|exact Jv hn hp ho rest _ _ he|exact hp _ _ _ he|(obtain ⟨a,w,he⟩:=he;exact ⟨a,w,ho _ _ he⟩))⟩
       | exact ⟨hh.1,RowsIn.mono hh.2 (fun _ _ he=>Jv hn hp ho rest _ _ he)⟩
       | exact ⟨hh.1,RoundIn.mono hh.2 (fun e w'' he=>by
         cases e<;>first|exact Jv hn hp ho rest _ _ he|exact hp _ _ _ he|(obtain ⟨a,w,he⟩:=he;exact ⟨a,w,ho _ _ he⟩))⟩
    | halt x w'=>cases x<;>simp only [Oper.uponIn] at hh ⊢<;>first|exact hh|exact hp _ _ _ hh
   rename_i hw
   simp only [hw] at hh
   exact ⟨hh.1,Jv hn hp ho rest _ _ hh.2⟩
/-- Operations; a panic may end them. -/
def ARunK (P:Program) (d:Nat) (ops:Array Oper) (l:List Oper) (st:St) (K:Exit→St→Prop):Prop:=
 ∀(G:Gh) (a:Act) (w:World),StRel d G st a w→∀idx:List Nat,idx.map (fun i=>ops[i]?)=l.map some →
  wpOpsIn (Fr (st.rnd.map G.blk)) 0 P ops (fun e a' w'=>Post d st G w (K e) a' w') idx a w
theorem ARunK.pre {l1 l2:List Oper} {st:St} {K:Exit→St→Prop} (h:ARun P d ops l1 st (fun s=>ARunK P d ops l2 s K)):ARunK P d ops (l1++l2) st K:=by
 intro G a w hr idx hidx
 rw [Cu,List.map_eq_append_iff] at hidx
 obtain ⟨i1,i2,rfl,h1,h2⟩:=hidx
 refine Jv (Q2:=fun e a' w'=>e=.normal∧Post d st G w (fun s=>ARunK P d ops l2 s K) a' w') ?_ ?_ ?_ i1 a w (h G a w hr i1 h1)
 ·rintro a1 w1 ⟨_,G1,s1,hr1,k1,e1,e2,e3,hK⟩
  have hF:=Gv hr k1 e2
  have:=hK G1 a1 w1 hr1 i2 h2
  rw [hF] at this
  exact Dq (fun e a' w' hp=>hp.next k1 e1 e2 e3) _ _ _ this
 ·rintro ch a1 w1 ⟨h,_⟩
  cases h
 rintro a1 w1 ⟨h,_⟩
 cases h
theorem ARunK.one {o:Oper} {K:Exit→St→Prop} (h:ARun P d ops [o] st (fun s=>ARunK P d ops rest s K)):ARunK P d ops (o::rest) st K:=ARunK.pre (l1:=[o]) h
theorem AW.regionK {l:List Oper} {K:Exit→St→Prop} (h:ARunK P d l.toArray l st K):AW P d (.region id l.toArray false) st K:=by
 intro G a w hrel
 exact wpIn_region (h G a w hrel _ (fg l))
theorem AW.seqRK {l:List Oper} {y:Code} {K:Exit→St→Prop} (h:ARunK P d l.toArray l st (Ta (fun s=>AW P d y s K) K)):AW P d (.seq (.region id l.toArray false) y) st K:=Pm (AW.regionK h)
/-- A call that may panic. -/
theorem Xl {o:Oper} {a:Act} {w:World} {K:Act→World→Prop} {Q:Exit→Act→World→Prop} {r:Option Nat} {g:FuncId} {vs:Array Value} (hd:∀c,o.op≠.defer c)
  (h:(execOp a.eval o).run P w=.ok (.enter g vs) w) {R:Ending→World→Prop} (hc:CallsIn Fence.wide 0 P g vs w R) (hk:∀e w',R e w'→(∃v,e=.returned v∧K (a.put o.dst v) w')∨∃ch,e=.panicked ch∧Q (.panic ch) a w'):o.wpIn (Fr r) 0 P a w K Q:=by
 refine ⟨fun _ _=>trivial,?_⟩
 rw [Oper.semAt_eq _ _ _ hd,h]
 refine ⟨fun h=>by simp [Fence.wide] at h,?_⟩
 have hc':CallsIn (Fr r) 0 P g vs w R:=hc
 refine hc'.mono fun e w' hR=>?_
 rcases hk e w' hR with ⟨v,rfl,hk'⟩|⟨ch,rfl,hq⟩
 ·exact hk'
 exact hq
theorem RK.callV {sz s:Nat} {fr:Nat→AV} {up own:List AObj} {dfs:List Nat} {rnd:Option Nat} {ty:TypeId} {pos:String} {aft:Array Edge} {rest:List Oper} {K:Exit→St→Prop} {f:Operand} {g:FuncId} {xs:List Operand} {ats:Array TypeId} {first caps args:List AV} {post:AV→List AObj→Prop} {pp:Value→List AObj→Prop}
  (hcall:∀args w,(callFunc g args).run P w=.ok (.enter g args) w) (h:ACallP P g args (up++own) post pp)
  (hp:∀r U O,U.length=up.length→(U++O).length=(up++own).length→post r (U++O)→((∀x∈up,ObjLow U.length x)→∀x∈U,ObjLow U.length x)∧(∀o∈dfs,(up++own)[o]? = some .defs→(U++O)[o]? = some .defs)∧ARunK P d ops rest ⟨sz,A9 s r fr,U,O,dfs,rnd⟩ K)
  (hpp:∀x U O,U.length=up.length→(U++O).length=(up++own).length→pp x (U++O)→((∀x∈up,ObjLow U.length x)→∀x∈U,ObjLow U.length x)∧(∀o∈dfs,(up++own)[o]? = some .defs→(U++O)[o]? = some .defs)∧K (.panic (Jl x)) ⟨sz,fr,U,O,dfs,rnd⟩)
  (hf:Ba fr f=.fn (.func g) first caps:=by exact sL0) (ha:first++xs.map (Ba fr)++caps=args:=by exact sL0) (hs:Nat.blt s sz=true:=by rfl):
  ARunK P d ops (⟨some s,.call ⟨.value f,xs.toArray,ats⟩,ty,pos,aft,none⟩::rest) ⟨sz,fr,up,own,dfs,rnd⟩ K:=by
 intro G a w hr idx hidx
 cases idx with
 | nil=>simp at hidx
 | cons i r =>
  simp only [Bs,Qs] at hidx
  simp only [wpOpsIn,hidx.1]
  have hw:Region.wanted (⟨some s,.call ⟨.value f,xs.toArray,ats⟩,ty,pos,aft,none⟩:Oper) (yielded ops a.tmps)=true:=by simp [Region.wanted]
  rw [if_pos hw]
  have hev:St.ev ⟨sz,fr,up,own,dfs,rnd⟩ f=.fn (.func g) first caps:=hf
  have hfr:=hev ▸ hr.eval f
  generalize hfv:a.eval f=fv at hfr
  cases hfr with
  | fn _ _ _ _ va vc hna hnc h1 h2 =>
   have hxr:=Un hr xs
   subst ha
   refine Xl (by intro c h;cases h) (Pp hcall hfv) (h d G w _ (by simp [hna,hnc]) (fun i y u hy hu=>?_) hr.heap hr.tags hr.top) ?_
   ·rw [C8] at hy
    rw [mm] at hu
    rcases Aw i first.length with hi|hi
    ·rw [Do hi] at hy
     rw [Kp (by omega)] at hu
     exact (h1 i y u hy hu).lift
    rw [Dg hi] at hy
    rw [O0 (by omega),hna] at hu
    rcases Aw (i-first.length) xs.length with hj|hj
    ·rw [Do (by simpa using hj)] at hy
     rw [Kp (by simpa using hj)] at hu
     exact (hxr _ y u hy hu).lift
    rw [Dg (by simpa using hj)] at hy
    rw [O0 (by simpa using hj)] at hu
    simp only [Bh,K9] at hy hu
    exact (h2 _ y u hy hu).lift
   have split:∀H':List AObj,H'.length=(up++own).length→H'=H'.take up.length++H'.drop up.length∧(H'.take up.length).length=up.length:=fun H' hl=>by
    have hl':up.length≤H'.length:=by rw [hl];simp
    exact ⟨(Se _ _).symm,by simp;omega⟩
   rintro e w' (⟨v,G',y,H',rfl,hrep,hH,hT,hk,hlen,hpo⟩|⟨x,G',H',rfl,hH,hT,hk,hlen,hpo⟩)
   ·obtain ⟨e1,e2⟩:=split H' hlen
    obtain ⟨U,hU⟩:∃U,U=H'.take up.length:=⟨_,rfl⟩
    obtain ⟨O,hO⟩:∃O,O=H'.drop up.length:=⟨_,rfl⟩
    rw [←hU] at e1 e2
    rw [←hO] at e1
    subst e1
    obtain ⟨q1,q2,q3⟩:=hp y U O e2 hlen hpo
    have h3:=hr.called hH hT hk rfl e2 (fun o ho=>q2 o ho (hr.defsAt o ho)) (q1 (by rw [e2];exact hr.low))
    obtain ⟨h4,k4⟩:=h3.took hrep (s:=s) (by simpa using hs)
    have kk:Keep d G w _ _:=(hk.less (I4 d)).trans k4
    have hF:=Gv (st':=⟨sz,A9 s y fr,U,O,dfs,rnd⟩) hr kk rfl
    have:=q3 _ _ _ h4 r hidx.2
    rw [hF] at this
    exact .inl ⟨v,rfl,Dq (fun e a' w' hpst=>hpst.next kk e2 rfl rfl) _ _ _ this⟩
   obtain ⟨e1,e2⟩:=split H' hlen
   obtain ⟨U,hU⟩:∃U,U=H'.take up.length:=⟨_,rfl⟩
   obtain ⟨O,hO⟩:∃O,O=H'.drop up.length:=⟨_,rfl⟩
   rw [←hU] at e1 e2
   rw [←hO] at e1
   subst e1
   obtain ⟨q1,q2,q3⟩:=hpp x U O e2 hlen hpo
   have h3:=hr.called hH hT hk rfl e2 (fun o ho=>q2 o ho (hr.defsAt o ho)) (q1 (by rw [e2];exact hr.low))
   exact .inr ⟨_,rfl,_,_,h3,hk.less (I4 d),e2,rfl,rfl,q3⟩
theorem an {G:Gh} {w:World} {l:Option Loc} {t:TypeId} {vs:List Value} {u:Value} (hxr:Rep G w l (.iface t (.agg (vs.map .v))) u):u=.iface t (.agg vs.toArray):=by
 cases hxr with
 | iface _ _ _ u' h =>
  cases h with
  | agg _ _ us hn h1 hh =>
   congr 2
   apply mn
   ·simpa using hn
   intro j hj1 hj2
   have hj:j<vs.length:=by simpa using hj2
   have:=hh j (.v vs[j]) us[j] (by simp [hj]) (by simp [hj1])
   generalize hz:us[j]=z at this
   cases this
   simp
/-- A panic. -/
theorem RK.panic {sz:Nat} {fr:Nat→AV} {up own:List AObj} {dfs:List Nat} {rnd:Option Nat} {dst:Option Nat} {ty:TypeId} {pos:String} {aft:Array Edge} {rest:List Oper} {K:Exit→St→Prop} {x:Operand} {t:TypeId} {vs:List Value}
  (hq:K (.panic (Jl (.iface t (.agg vs.toArray)))) ⟨sz,fr,up,own,dfs,rnd⟩)
  (hx:Ba fr x=.iface t (.agg (vs.map .v)):=by exact sL0):
  ARunK P d ops (⟨dst,.panic x,ty,pos,aft,none⟩::rest) ⟨sz,fr,up,own,dfs,rnd⟩ K:=by
 intro G a w hr idx hidx
 cases idx with
 | nil=>simp at hidx
 | cons i r =>
  simp only [Bs,Qs] at hidx
  simp only [wpOpsIn,hidx.1]
  have hw:Region.wanted (⟨dst,.panic x,ty,pos,aft,none⟩:Oper) (yielded ops a.tmps)=true:=by simp [Region.wanted]
  rw [if_pos hw]
  have hxr:=hr.eval x
  have hev:St.ev ⟨sz,fr,up,own,dfs,rnd⟩ x=.iface t (.agg (vs.map .v)):=hx
  rw [hev] at hxr
  have hval:a.eval x=.iface t (.agg vs.toArray):=an hxr
  refine ⟨fun _ _=>trivial,?_⟩
  rw [Oper.semAt_eq _ _ _ (by intro c h;cases h)]
  have he:(execOp a.eval ⟨dst,.panic x,ty,pos,aft,none⟩).run P w=.halt (.panic (.iface t (.agg vs.toArray))) w:=by
   show ((do let v ←Instr.panic (a.eval x);pure (.value v)):Sem Next).run P w=_
   rw [hval]
   rfl
  rw [he]
  exact ⟨G,_,hr,Hv _ _ _,rfl,rfl,rfl,hq⟩
/-- How the body of a function that may panic ends. -/
def FKP (P:Program) (rs:List ResultVar) (n:Nat) (post:AV→List AObj→Prop) (pp:Value→List AObj→Prop):Exit→St→Prop
 | .panic ch,s=>s.defs=[]∧∃x,ch=Jl x∧pp x s.up
 | e,s=>(e=.normal∨e=.ret)∧∃r,Res P s rs r∧Low n r∧post r s.up
/-- A contract from the body, where that may panic. -/
theorem ACallP.ofBody {g:FuncId} {fn:Func} {c:Code} {args:List AV} {H:List AObj} {post:AV→List AObj→Prop} {pp:Value→List AObj→Prop} {rs:List ResultVar} {n:Nat} (hf:P.funcs[g]? = some fn) (hb:fn.body=some c) (hrs:fn.results=rs.toArray)
    (hn:fn.ntmps=n) (hargs:args.length≤n)
    (h:∀d,AW P (d+1) c ⟨n,argsF args,H,[],[],none⟩ (FKP P rs H.length post pp)):ACallP P g args H post pp:=by
  intro d G w vs hvs hrep hH hT hTop
  refine callsIn_of_wp_marks hf hb trivial ?_
  have hst:StRel (d+1) G ⟨n,argsF args,H,[],[],none⟩ { tmps:=vs++Array.replicate (fn.ntmps-vs.size) undef,defers:=[] } w:=by
    refine ⟨?_,fun s=>?_,by simpa using hH,(by rw [Gd hTop];rfl),(fun o ho=>by simp at ho),Mp,(fun o ho=>by simp at ho),hT,(fun l hl=>by cases hl),fun x hx=>?_,J9 hTop⟩
    · simp only [Pe,js,hvs,hn];omega
    · show Rep G w _ (args.getD s (.v undef)) _
      rw [F7,Lj]
      rcases Aw s args.length with h'|h'
      · rw [Ak h',Kp (by omega),F3 (by omega)]
        exact hrep s _ _ (Ak h') (F3 (by omega))
      rw [Gi h',O0 (by omega)]
      simp only [Option.getD_none]
      have:((Array.replicate (fn.ntmps-vs.size) undef)[s-vs.size]?).getD undef=undef:=by
        rw [Qp];split<;>rfl
      rw [this]
      exact .v _ _
    -- the objects of whoever waits refer to one another alone
    obtain ⟨i,hi⟩:=Dp hx
    have hob:=hH.obj i x hi
    show ObjLow H.length x
    rw [←hH.n]
    exact hob.low
  have hw:=h d G _ w hst
  refine wpIn_mono hw ?_
  rintro e a' w' ⟨G1,st',h1,k1,e1,e2,e3,hK⟩
  have hupl:st'.up.length=H.length:=e1
  have hGn:G.n=H.length:=hH.n
  have hpan:∀ch,FKP P rs H.length post pp (.panic ch) st'→LeavesInM Fence.wide 0 P fn a'.tmps (fun e w'=>(∃(v:Value) (G':Gh) (r:AV) (H':List AObj),e=.returned v∧Rep G' w' (some (.ret d)) r v∧HeapRel G' H' w'∧TagOK G' w'∧Keep (d+1) G w G' w'∧H'.length=H.length∧post r H')∨∃(x:Value) (G':Gh) (H':List AObj),e=.panicked (Jl x)∧HeapRel G' H' w'∧TagOK G' w'∧Keep (d+1) G w G' w'∧H'.length=H.length∧pp x H') a'.defers (.panicking ch) w':=by
    rintro ch ⟨hdf,x,rfl,hpx⟩
    rw [h1.defs,hdf,Gd hTop]
    refine .inr ⟨x,{ G1 with n:=st'.up.length },st'.up,rfl,⟨fun i y hy=>?_,rfl,fun i j hi hj e=>h1.heap.inj i j ?_ ?_ e⟩,⟨h1.tags.ex,h1.tags.obj,h1.tags.tail,h1.tags.globCut (by rw [h1.heap.n,Ai];omega)⟩,?_,hupl,hpx⟩
    · exact (h1.heap.obj i y (A8 hy)).cut (h1.low y (Bd hy))
    · rw [h1.heap.n,Ai];simp only at hi;omega
    · rw [h1.heap.n,Ai];simp only at hj;omega
    exact ⟨k1.fix,k1.slot,by rw [hGn,←hupl];exact Ae _,k1.blk,k1.os,k1.tape,k1.output,k1.size,k1.old.cut (by rw [h1.heap.n,Ai];omega)⟩
  have hret:(e=.normal∨e=.ret)→(∃r,Res P st' rs r∧Low H.length r∧post r st'.up)→LeavesInM Fence.wide 0 P fn a'.tmps (fun e w'=>(∃(v:Value) (G':Gh) (r:AV) (H':List AObj),e=.returned v∧Rep G' w' (some (.ret d)) r v∧HeapRel G' H' w'∧TagOK G' w'∧Keep (d+1) G w G' w'∧H'.length=H.length∧post r H')∨∃(x:Value) (G':Gh) (H':List AObj),e=.panicked (Jl x)∧HeapRel G' H' w'∧TagOK G' w'∧Keep (d+1) G w G' w'∧H'.length=H.length∧pp x H') a'.defers .returning w':=by
   rintro hcase ⟨r,hres,hlow,hpost⟩
   show LeavesInM Fence.wide 0 P fn a'.tmps (fun e w'=>(∃(v:Value) (G':Gh) (r:AV) (H':List AObj),e=.returned v∧Rep G' w' (some (.ret d)) r v∧HeapRel G' H' w'∧TagOK G' w'∧Keep (d+1) G w G' w'∧H'.length=H.length∧post r H')∨∃(x:Value) (G':Gh) (H':List AObj),e=.panicked (Jl x)∧HeapRel G' H' w'∧TagOK G' w'∧Keep (d+1) G w G' w'∧H'.length=H.length∧pp x H') a'.defers .returning w'
   rw [h1.defs,Gd hTop,Ep]
   refine mo st'.defs w' h1.heap h1.defsAt h1.defsNodup (fun w2 q1 q0 q2 q3 q4 q5 q6 q7=>?_)
   -- the state over memory in which the marks' blocks are shut
   have T:Turn G1 w' G1 w2:=⟨fun b o hb=>⟨hb,q6 _⟩,fun _ _ _ hb=>hb,fun _ _ _ hb=>hb,Ae _,fun _ _=>rfl,q2,q3,q4,J8 q5.symm,Ma (fun b hb=>q1 b (fun o ho e=>hb.2.2 o (by rw [h1.heap.n];exact (Aa.1 (h1.defsAt o ho)).1) e.symm)) (J8 q5.symm) (fun _ _ _=>.inl rfl) (fun _ hi=>.inl ⟨hi,rfl⟩)⟩
   let own':=st'.own.mapIdx fun i x=>if st'.up.length+i∈st'.defs then .dead else x
   have hget:∀(i:Nat) (x:AObj),(st'.up++own')[i]? = some x→(i∉st'.defs∧(st'.up++st'.own)[i]? = some x)∨(i∈st'.defs∧x=.dead):=fun i x hx=>by
     rcases Aw i st'.up.length with h'|h'
     · rw [Do h'] at hx ⊢
       exact .inl ⟨fun hm=>by have:=h1.defsGe i hm;omega,hx⟩
     rw [Dg h'] at hx ⊢
     simp only [own',jy] at hx
     rw [Fj] at hx
     obtain ⟨z,hz,rfl⟩:=hx
     rw [show st'.up.length+(i-st'.up.length)=i by omega]
     by_cases hm:i∈st'.defs
     · exact .inr ⟨hm,by rw [if_pos hm]⟩
     exact .inl ⟨hm,by rw [if_neg hm];exact hz⟩
   have hback:∀(i:Nat) (t:TypeId) (cs:List AV),(st'.up++st'.own)[i]? = some (.cells t cs)→(st'.up++own')[i]? = some (.cells t cs):=fun i t cs hx=>by
     have hnd:i∉st'.defs:=fun hm=>by
       have:=h1.defsAt i hm
       rw [hx] at this;cases this
     rcases Aw i st'.up.length with h'|h'
     · rw [Do h'] at hx ⊢;exact hx
     rw [Dg h'] at hx ⊢
     simp only [own',jy,hx,Option.map_some]
     rw [show st'.up.length+(i-st'.up.length)=i by omega,if_neg hnd]
   have hlen':(st'.up++own').length=(st'.up++st'.own).length:=by simp [own']
   have hst2:StRel (d+1) G1 { st' with own:=own',defs:=[] } { tmps:=a'.tmps,defers:=[] } w2:=by
     refine ⟨h1.size,fun s=>T.rep (h1.slots s),⟨fun i x hx=>?_,by rw [hlen'];exact h1.heap.n,h1.heap.inj⟩,(by rw [Gd hTop];rfl),(fun o ho=>by simp at ho),Mp,(fun o ho=>by simp at ho),⟨fun b o hb=>?_,fun b o i hb=>?_,fun b o L hb=>?_,h1.tags.globKeep T.old⟩,h1.rnd,h1.low,h1.top⟩
     · rcases hget i x hx with ⟨hnd,hx'⟩|⟨hm,rfl⟩
       · have hil:i<G1.n:=by rw [h1.heap.n];exact (Aa.1 hx').1
         refine T.objRel hil (q1 _ (fun o ho e=>hnd ?_)) (h1.heap.obj i x hx') (fun b hb=>q1 b (fun o ho e=>?_))
         · have hol:o<G1.n:=by rw [h1.heap.n];exact (Aa.1 (h1.defsAt o ho)).1
           rw [h1.heap.inj i o hil hol e];exact ho
         obtain ⟨cur,te,hc,_⟩:=hb
         have hdo:w'.heap[G1.blk o]? = some (.deferred (some [])):=h1.heap.obj o _ (h1.defsAt o ho)
         rw [e,hdo] at hc
         cases hc
       exact q0 i hm
     · rw [q6];exact h1.tags.ex b o hb
     · rw [q7];exact h1.tags.obj b o i hb
     rw [q7];exact h1.tags.tail b o L hb
   have hresv:∀(rv:ResultVar) (y:AV),ResV P st' rv y→ResV P { st' with own:=own',defs:=[] } rv y:=fun rv y hy=>by
     cases hy with
     | tmp t _ h=>exact ResV.tmp (st:={ st' with own:=own',defs:=[] }) t _ h
     | cell a t t' o off cs y0 hagg hp ho hy _ h=>exact ResV.cell (st:={ st' with own:=own',defs:=[] }) a t t' o off cs y0 hagg hp (hback _ _ _ ho) hy _ h
     | cellN a t t' o off k cs hagg hsz hp ho hk h1 _ h=>exact ResV.cellN (st:={ st' with own:=own',defs:=[] }) a t t' o off k cs hagg hsz hp (hback _ _ _ ho) hk h1 _ h
   have hres2:Res P { st' with own:=own',defs:=[] } rs r:=by
     cases hres with
     | nores=>exact .nores
     | one rv _ h=>exact .one rv _ (hresv _ _ h)
     | own t _ h=>exact Res.own (st:={ st' with own:=own',defs:=[] }) t _ h
     | ownCell a t t' o off cs _ hagg hp ho hge hy=>exact Res.ownCell (st:={ st' with own:=own',defs:=[] }) a t t' o off cs _ hagg hp (hback _ _ _ ho) hge hy
     | two r1 r2 y1 y2 h1 h2=>exact .two _ _ _ _ (hresv _ _ h1) (hresv _ _ h2)
     | three r1 r2 r3 y1 y2 y3 h1 h2 h3=>exact .three _ _ _ _ _ _ (hresv _ _ h1) (hresv _ _ h2) (hresv _ _ h3)
     | four r1 r2 r3 r4 y1 y2 y3 y4 h1 h2 h3 h4=>exact .four _ _ _ _ _ _ _ _ (hresv _ _ h1) (hresv _ _ h2) (hresv _ _ h3) (hresv _ _ h4)
     | five r1 r2 r3 r4 r5 y1 y2 y3 y4 y5 h1 h2 h3 h4 h5=>exact .five _ _ _ _ _ _ _ _ _ _ (hresv _ _ h1) (hresv _ _ h2) (hresv _ _ h3) (hresv _ _ h4) (hresv _ _ h5)
   obtain ⟨v,G2,hrun,hr2,hH2,hT2,hk2,hn2⟩:=hres2.run hst2 hrs
   refine ⟨v,hrun,.inl ⟨v,{ G2 with n:=st'.up.length },r,st'.up,rfl,hr2.cut (by rw [hupl];exact hlow),hH2,⟨hT2.ex,hT2.obj,hT2.tail,hT2.globCut (by rw [hn2,h1.heap.n,Ai];omega)⟩,?_,hupl,hpost⟩⟩
   have kk:=(k1.trans (T.keep (d+1))).trans hk2
   exact ⟨kk.fix,kk.slot,by rw [hGn,←hupl];exact Ae _,kk.blk,kk.os,kk.tape,kk.output,kk.size,kk.old.cut (by rw [hn2,h1.heap.n,Ai];omega)⟩
  cases e with
  | normal=>exact hret (.inl rfl) hK.2
  | ret=>exact hret (.inr rfl) hK.2
  | panic ch=>exact hpan ch hK
  | exit i=>rcases hK.1 with h|h<;>cases h
  | goto i=>rcases hK.1 with h|h<;>cases h
  | outgrown=>rcases hK.1 with h|h<;>cases h
theorem ACallP.body {fn:Func} {c:Code} {post:AV→List AObj→Prop} {pp:Value→List AObj→Prop} {fr':Nat→AV} (rs:List ResultVar) (l:List Nat) {n:Nat} (hf:P.funcs[g]? = some fn) (hn:fn.ntmps=n)
  (h:∀d,AW P (d+1) c ⟨n,fr',H,[],[],none⟩ (FKP P rs H.length post pp)) (hb:fn.body=some c:=by rfl) (hrs:fn.results=rs.toArray:=by rfl) (hargs:args.length≤n:=by exact sL1)
  (hk:Qi l (argsF args)=fr':=by exact sL0):ACallP P g args H post pp:=
 ACallP.ofBody hf hb hrs hn hargs (fun d=>To l hk (h d))
theorem K.finP {rs:List ResultVar} {post:AV→List AObj→Prop} {pp:Value→List AObj→Prop} {r:AV} (hres:Res P s rs r) (hp:post r s.up:=by exact ⟨rfl,rfl⟩) (hlow:Low n r:=by simp):FKP P rs n post pp .ret s:=⟨.inr rfl,r,hres,hlow,hp⟩
theorem K.finPN {rs:List ResultVar} {post:AV→List AObj→Prop} {pp:Value→List AObj→Prop} {r:AV} (hres:Res P s rs r) (hp:post r s.up:=by exact ⟨rfl,rfl⟩) (hlow:Low n r:=by simp):FKP P rs n post pp .normal s:=⟨.inl rfl,r,hres,hlow,hp⟩
theorem K.finPP {rs:List ResultVar} {post:AV→List AObj→Prop} {pp:Value→List AObj→Prop} {x:Value} (hp:pp x s.up) (hd:s.defs=[]:=by rfl):FKP P rs n post pp (.panic (Jl x)) s:=⟨hd,x,rfl,hp⟩
theorem K.thP {K:Exit→St→Prop} {N:St→Prop} {ch:List PanicEntry} (h:K (.panic ch) s):Ta N K (.panic ch) s:=h
theorem K.blP {K:Exit→St→Prop} {ch:List PanicEntry} (h:K (.panic ch) s):Pl id K (.panic ch) s:=h
theorem K.lpP {K:Exit→St→Prop} {ch:List PanicEntry} {α:Type} {I:α→St} {R:α→Prop} {μ:α→Nat} {x:α} {N:St→Prop} (h:K (.panic ch) s):LK d id I R μ x N K (.panic ch) s:=h
end
end Go.SX
namespace Go.SX
def P2:=@ACallP.body
def Cg:=@ARunK.one
def Kb:=@AW.regionK
def Jm:=@AW.seqRK
def Nd:=@K.blP
def Kc:=@K.finPN
def Dx:=@K.finPP
def Jn:=@K.thP
end Go.SX
namespace Go.SX
variable [GI:GlobInv]
open Classical
variable {a b n nc sz:Nat} {caps:List AV} {crest:Code} {dfs:List Nat} {fr:Nat→AV} {own up:List AObj} {r:AV} {rnd:Option Nat}
/-- What recover gives behind an exit. -/
inductive Recov:Exit→AV→Prop
 | normal:Recov .normal (.v .nilIface)
 | ret:Recov .ret (.v .nilIface)
 | panic (t:TypeId) (vs:List Value) (h:∀v∈vs,(AV.v v).one=true):Recov (.panic (Jl (.iface t (.agg vs.toArray)))) (.iface t (.agg (vs.map .v)))
/-- The same in the frame's mode. -/
inductive RecovM:FrameMode→AV→Prop
 | none:RecovM .returning (.v .nilIface)
 | panic (t:TypeId) (vs:List Value) (h:∀v∈vs,(AV.v v).one=true):RecovM (.panicking (Jl (.iface t (.agg vs.toArray)))) (.iface t (.agg (vs.map .v)))
theorem TagOK.to {GI1 GI2:GlobInv} (h:GI1.blocks=GI2.blocks) {G:Gh} {w:World} (k:@TagOK GI1 G w):@TagOK GI2 G w:=@TagOK.mk GI2 _ _ (@TagOK.ex GI1 _ _ k) (@TagOK.obj GI1 _ _ k) (@TagOK.tail GI1 _ _ k) (by rw [←h];exact @TagOK.glob GI1 _ _ k)
section
variable {P:Program} {d:Nat}
theorem l7 {G:Gh} {w:World} (vs:List Value) (hone:∀v∈vs,(AV.v v).one=true):Rep G w none (.agg (vs.map .v)) (.agg vs.toArray):=by
 refine .agg _ _ _ (by simp) (fun y hy=>?_) (fun i y u h1 h2=>?_)
 ·obtain ⟨v,hv,rfl⟩:=F4.1 hy
  exact hone v hv
 simp only [D3,Fj] at h1
 obtain ⟨v,hv,rfl⟩:=h1
 simp only [Zv] at h2
 rw [hv] at h2
 injection h2 with h2
 subst h2
 exact .v _ _
/-- The closure, called while its activation leaves. -/
theorem AM0 {clo:FuncId} {fc:Func} {crest:Code} {idc nc a b:Nat} {ta tb:TypeId} {pa pb:String} {fa fb:Array Edge} {caps:List AV} {H H2:List AObj}
  (hf:P.funcs[clo]? = some fc) (hb:fc.body=some (.seq (.region idc #[⟨some a,.call ⟨.builtin .recover,#[],#[]⟩,ta,pa,fa,none⟩,⟨some b,.assign (.tmp a),tb,pb,fb,none⟩] false) crest))
  (hn:fc.ntmps=nc) (hr:fc.results=#[]) (hcl:caps.length≤nc) (ha:a<nc) (hbn:b<nc) {u:FrameMode} {y:AV} (hu:RecovM u y)
  (hrest:∀d,AW P (d+1) crest ⟨nc,A9 b y.strip (A9 a y (argsF caps)),H,[],[],none⟩ (fun e s=>(e=.normal∨e=.ret)∧s.defs=[]∧s.up=H2))
  {G:Gh} {w:World} {vs:Array Value} (hvs:vs.size=caps.length) (hrep:∀(i:Nat) (z:AV) (v:Value),caps[i]? = some z→vs[i]? = some v→Rep G w (some (.slot (d+1) i)) z v) (hH:HeapRel G H w) (hT:TagOK G w) (hTop:GI.bd≤d):
  CallsDIn Fence.wide 0 P clo vs u w (fun e u' w'=>∃v,e=.returned v∧settle u'=.returning∧∃G',HeapRel G' H2 w'∧TagOK G' w'∧Keep (d+1) G w G' w'):=by
 refine callsDIn_of_wpSIn hf hb trivial fun c₀ cs hm=>?_
 have hst0:StRel (d+1) G ⟨nc,argsF caps,H,[],[],none⟩ { tmps:=vs++Array.replicate (fc.ntmps-vs.size) undef,defers:=[] } w:=by
  refine ⟨?_,fun s=>?_,by simpa using hH,(by rw [Gd hTop];rfl),(fun o ho=>by simp at ho),Mp,(fun o ho=>by simp at ho),hT,(fun l hl=>by cases hl),fun x hx=>?_,J9 hTop⟩
  ·simp only [Pe,js,hvs,hn];omega
  ·show Rep G w _ (caps.getD s (.v undef)) _
   rw [F7,Lj]
   rcases Aw s caps.length with h'|h'
   ·rw [Ak h',Kp (by omega),F3 (by omega)]
    exact hrep s _ _ (Ak h') (F3 (by omega))
   rw [Gi h',O0 (by omega)]
   simp only [Option.getD_none]
   have:((Array.replicate (fc.ntmps-vs.size) undef)[s-vs.size]?).getD undef=undef:=by
    rw [Qp];split<;>rfl
   rw [this]
   exact .v _ _
  obtain ⟨i,hi⟩:=Dp hx
  have hob:=hH.obj i x hi
  show ObjLow H.length x
  rw [←hH.n]
  exact hob.low
 have main:∀(x:Value) (u':FrameMode),Rep G w none y x→settle u'=.returning →
   crest.wpSIn Fence.wide 0 P (bodyPostS P fc c₀ cs (fun e u' w'=>∃v,e=.returned v∧settle u'=.returning∧∃G',HeapRel G' H2 w'∧TagOK G' w'∧Keep (d+1) G w G' w'))
    (({ tmps:=vs++Array.replicate (fc.ntmps-vs.size) undef,defers:=[] }:Act).put (some a) x |>.put (some b) x) ({ c₀ with mode:=u' }::cs) w:=by
  intro x u' hx hset
  have h1:=hst0.put (s:=a) (y:=y) (v:=x) ha hx.lift
  have h2:=h1.put (s:=b) (y:=y.strip) (v:=x) hbn hx.strip
  refine wpSIn_of_wpIn rfl (wpIn_mono (hrest d G _ w h2) ?_)
  rintro e a' w' ⟨G1,s,hs,k1,e1,e2,e3,hK⟩
  have hup:s.up.length=H.length:=e1
  have hGn:G.n=H.length:=hH.n
  have fin:∃v,(results fc a'.tmps).run P w'=.ok v w'∧∃v',Ending.returned v=.returned v'∧settle u'=.returning∧∃G',HeapRel G' H2 w'∧TagOK G' w'∧Keep (d+1) G w G' w':=by
   obtain ⟨v,G2,hrun,hr2,hH2,hT2,hk2,hn2⟩:=(Res.nores (P:=P) (st:=s)).run hs (by rw [hr])
   refine ⟨v,hrun,v,rfl,hset,{ G2 with n:=s.up.length },by rw [←hK.2.2];exact hH2,⟨hT2.ex,hT2.obj,hT2.tail,hT2.globCut (by rw [hn2,hs.heap.n,Ai];omega)⟩,?_⟩
   have kk:=k1.trans hk2
   exact ⟨kk.fix,kk.slot,by rw [hGn,←hup];exact Ae _,kk.blk,kk.os,kk.tape,kk.output,kk.size,kk.old.cut (by rw [hn2,hs.heap.n,Ai];omega)⟩
  have hdf:a'.defers=[]:=by rw [hs.defs,hK.2.1,Gd hTop];rfl
  obtain ⟨v,hrun,hfin⟩:=fin
  cases e with
  | normal=>exact ⟨hdf,u',rfl,v,hrun,hfin⟩
  | ret=>exact ⟨hdf,u',rfl,v,hrun,hfin⟩
  | panic ch=>rcases hK.1 with h|h<;>cases h
  | exit i=>rcases hK.1 with h|h<;>cases h
  | goto i=>rcases hK.1 with h|h<;>cases h
  | outgrown=>rcases hK.1 with h|h<;>cases h
 refine wpSIn_seq (wpSIn_region ?_)
 show wpOpsSIn Fence.wide 0 P #[_,_] _ (List.range 2) _ _ _
 have hput:∀(A:Act) (x:Value),a<A.tmps.size→(A.put (some a) x).eval (.tmp a)=x:=fun A x h=>by
  show (A.tmps.setIfInBounds a x).getD a undef=x
  rw [Hf _ _ _ _ h,if_pos rfl]
 have hsz:a<(({ tmps:=vs++Array.replicate (fc.ntmps-vs.size) undef,defers:=[] }:Act)).tmps.size:=by
  rw [hst0.size];exact ha
 cases hu with
 | none =>
  have hrc:recoverD (c₀::cs)=none:=by simp [recoverD,hm]
  refine ⟨fun _ _=>trivial,?_⟩
  rw [if_pos (by simp [Region.wanted])]
  show (match recoverD (c₀::cs) with|some (v,cs')=>_|none=>_)
  rw [hrc]
  refine ⟨fun _ _=>trivial,?_⟩
  rw [if_pos (by simp [Region.wanted])]
  have hm':({ c₀ with mode:=.returning }:Frame)=c₀:=by rw [←hm]
  have:=main .nilIface .returning (.v _ _) rfl
  rw [hm'] at this
  show wpOpsSIn Fence.wide 0 P _ _ [] ((Act.put _ (some a) .nilIface).put (some b) ((Act.put _ (some a) .nilIface).eval (.tmp a))) _ _
  rw [hput _ _ hsz]
  exact this
 | panic t l hone =>
  have hrc:recoverD (c₀::cs)=some (.iface t (.agg l.toArray),{ c₀ with mode:=.panicking [{ v:=.iface t (.agg l.toArray),recovered:=true }] }::cs):=by
   simp [recoverD,hm,Jl]
  refine ⟨fun _ _=>trivial,?_⟩
  rw [if_pos (by simp [Region.wanted])]
  show (match recoverD (c₀::cs) with|some (v,cs')=>_|none=>_)
  rw [hrc]
  refine ⟨fun _ _=>trivial,?_⟩
  rw [if_pos (by simp [Region.wanted])]
  have:=main (.iface t (.agg l.toArray)) (.panicking [{ v:=.iface t (.agg l.toArray),recovered:=true }]) (.iface _ _ _ _ (l7 l hone)) rfl
  show wpOpsSIn Fence.wide 0 P _ _ [] ((Act.put _ (some a) (.iface t (.agg l.toArray))).put (some b) ((Act.put _ (some a) (.iface t (.agg l.toArray))).eval (.tmp a))) _ _
  rw [hput _ _ hsz]
  exact this
/-- How the body of a function behind its defer statement may end. -/
def KG (P:Program) (crest:Code) (nc a b:Nat) (caps:List AV) (rs:List ResultVar) (n:Nat) (post:AV→List AObj→Prop) (e:Exit) (s:St):Prop:=
 s.defs=[]∧∃(y:AV) (U O:List AObj) (r:AV),Recov e y∧U.length=s.up.length∧((∀z∈s.up,ObjLow s.up.length z)→∀z∈U,ObjLow U.length z) ∧
  (∀d,AW P (d+1) crest ⟨nc,A9 b y.strip (A9 a y (argsF caps)),s.up++s.own,[],[],none⟩ (fun e s2=>(e=.normal∨e=.ret)∧s2.defs=[]∧s2.up=U++O)) ∧
  Res P ⟨s.sz,s.fr,U,O,[],none⟩ rs r∧Low n r∧post r U
theorem nn {E:GlobInv} {d:Nat} (h:d=E.bd):@fe E d=E.bl:=if_pos h
/-- The same world, an activation of which has a deferred call of its own. -/
@[reducible] def Hy (d:Nat) (l:List Deferred):GlobInv:={ blocks:=GI.blocks,bd:=d,bl:=l }
theorem AB1 {G G':Gh} {w w':World} {l l':Option Loc} {o off:Nat} {v:Value} (h:Rep G w l (.ptr o off) v) (hn:G.n≤G'.n) (hb:∀o,o<G.n→G'.blk o=G.blk o):Rep G' w' l' (.ptr o off) v:=by
 cases h with
 | ptr _ _ _ ho=>rw [←hb o ho];exact .ptr _ _ _ (D7 ho hn)
/-- **A function whose first doing is to defer a closure that recovers.** -/
theorem ACall.guarded {g clo:FuncId} {fn fc:Func} {x y crest:Code} {id idc n nc a b:Nat} {o1:Oper} {s1:Nat} {ta tb ty:TypeId} {pa pb pos:String} {fa fb aft:Array Edge} {args:List AV} {os:List Nat} {H own0:List AObj} {fr0 fr1:Nat→AV} {rs:List ResultVar} {post:AV→List AObj→Prop}
  (hf:P.funcs[g]? = some fn) (hb:fn.body=some (.seq x (.seq (.region id #[o1,⟨none,.defer ⟨.value (.tmp s1),#[],#[]⟩,ty,pos,aft,none⟩] false) y))) (hrs:fn.results=rs.toArray) (hn:fn.ntmps=n) (hargs:args.length≤n)
  (hfc:P.funcs[clo]? = some fc) (hbc:fc.body=some (.seq (.region idc #[⟨some a,.call ⟨.builtin .recover,#[],#[]⟩,ta,pa,fa,none⟩,⟨some b,.assign (.tmp a),tb,pb,fb,none⟩] false) crest))
  (hnc:fc.ntmps=nc) (hrc:fc.results=#[]) (hcl:os.length≤nc) (ha:a<nc) (hbn:b<nc)
  (hcall:∀args w,(callFunc clo args).run P w=.ok (.enter clo args) w)
  (hx:∀d,AW P (d+1) x ⟨n,argsF args,H,[],[],none⟩ (fun e s=>e=.normal∧s=⟨n,fr0,H,own0,[],none⟩))
  (ho1:∀d,ARun P (d+1) #[o1,⟨none,.defer ⟨.value (.tmp s1),#[],#[]⟩,ty,pos,aft,none⟩] [o1] ⟨n,fr0,H,own0,[],none⟩ (fun s=>s=⟨n,fr1,H,own0,[],none⟩))
  (hev:(fr1 s1).strip=.fn (.func clo) [] (os.map fun o=>.ptr o 0))
  (hy:∀d l,@AW (Hy (d+1) l) P (d+1) y ⟨n,fr1,H,own0,[],none⟩ (@KG (Hy (d+1) l) P crest nc a b (os.map fun o=>.ptr o 0) rs H.length post)):ACall P g args H post:=by
 intro d G w vs hvs hrep hH hT hTop
 refine callsIn_of_wp_marks hf hb trivial ?_
 have hst:StRel (d+1) G ⟨n,argsF args,H,[],[],none⟩ { tmps:=vs++Array.replicate (fn.ntmps-vs.size) undef,defers:=[] } w:=by
  refine ⟨?_,fun s=>?_,by simpa using hH,(by rw [Gd hTop];rfl),(fun o ho=>by simp at ho),Mp,(fun o ho=>by simp at ho),hT,(fun l hl=>by cases hl),fun x hx=>?_,J9 hTop⟩
  ·simp only [Pe,js,hvs,hn];omega
  ·show Rep G w _ (args.getD s (.v undef)) _
   rw [F7,Lj]
   rcases Aw s args.length with h'|h'
   ·rw [Ak h',Kp (by omega),F3 (by omega)]
    exact hrep s _ _ (Ak h') (F3 (by omega))
   rw [Gi h',O0 (by omega)]
   simp only [Option.getD_none]
   have:((Array.replicate (fn.ntmps-vs.size) undef)[s-vs.size]?).getD undef=undef:=by
    rw [Qp];split<;>rfl
   rw [this]
   exact .v _ _
  obtain ⟨i,hi⟩:=Dp hx
  have hob:=hH.obj i x hi
  show ObjLow H.length x
  rw [←hH.n]
  exact hob.low
 have hGn:G.n=H.length:=hH.n
 refine wpIn_seq (wpIn_mono (hx d G _ w hst) ?_)
 rintro e0 a0 w0 ⟨G0,s0,h0,k0,u1,u2,u3,rfl,rfl⟩
 refine wpIn_seq (wpIn_region ?_)
 show wpOpsIn _ 0 P _ _ ([0]++[1]) a0 w0
 refine Jv (Q2:=fun e a' w'=>e=.normal∧Post (d+1) ⟨n,fr0,H,own0,[],none⟩ G0 w0 (fun s=>s=⟨n,fr1,H,own0,[],none⟩) a' w') ?_ ?_ ?_ [0] a0 w0 (ho1 d G0 a0 w0 h0 [0] rfl)
 rotate_left
 ·rintro ch a1 w1 ⟨h,_⟩
  cases h
 ·rintro a1 w1 ⟨h,_⟩
  cases h
 rintro a1 w1 ⟨_,G1,s1',h1,k1,v1,v2,v3,rfl⟩
 refine ⟨fun _ _=>trivial,?_⟩
 have hfr:=h1.eval (.tmp s1)
 have hev':St.ev ⟨n,fr1,H,own0,[],none⟩ (.tmp s1)=.fn (.func clo) [] (os.map fun o=>.ptr o 0):=hev
 rw [hev'] at hfr
 generalize hfv:a1.eval (.tmp s1)=fv at hfr
 cases hfr with
 | fn _ _ _ _ va vc hna hnc' r1 r2 =>
  have hva:va=#[]:=by
   apply Array.eq_empty_of_size_eq_zero
   simpa using hna
  subst hva
  have hex:((⟨none,.defer ⟨.value (.tmp s1),#[],#[]⟩,ty,pos,aft,none⟩:Oper).semAt (none:Option Nat) a1.eval).run P w1=.ok (.defer { target:=.fn (.func clo) vc,args:=#[] }) w1:=by
   rw [Oper.semAt_none]
   show ((do pure (.defer (←resolve a1.eval ⟨.value (.tmp s1),#[],#[]⟩ ty))):Sem Next).run P w1=_
   simp [resolve,hfv,Deferred.ofValue]
  show Oper.uponIn _ _ _ _ _ _ _ (((⟨none,.defer ⟨.value (.tmp s1),#[],#[]⟩,ty,pos,aft,none⟩:Oper).semAt (none:Option Nat) a1.eval).run P w1)
  rw [hex]
  -- the state behind the defer statement
  have hB:a1.defers=[]:=by rw [h1.defs,Gd hTop];rfl
  let D:Deferred:={ target:=.fn (.func clo) vc,args:=#[] }
  have h2:@StRel (Hy (d+1) [D]) (d+1) G1 ⟨n,fr1,H,own0,[],none⟩ (({ a1 with defers:=D::a1.defers }:Act).put none undef) w1:=by
   refine @StRel.mk (Hy (d+1) [D]) _ _ _ _ _ h1.size h1.slots h1.heap ?_ h1.defsAt h1.defsNodup h1.defsGe (TagOK.to (GI1:=GI) (GI2:=Hy (d+1) [D]) rfl h1.tags) h1.rnd h1.low (Ae _)
   show D::a1.defers=[]++@fe (Hy (d+1) [D]) (d+1)
   rw [hB,nn (E:=Hy (d+1) [D]) (d:=d+1) rfl]
   rfl
  have hw:=hy d [D] G1 _ w1 h2
  show y.wpIn Fence.wide 0 P _ _ w1
  refine wpIn_mono hw ?_
  rintro e a2 w2 ⟨G2,s,h3,k2,t1,t2,t3,hdf,yv,U,O,r,hrec,hU,hlowU,hcrest,hres,hlow,hpost⟩
  have hup:s.up.length=H.length:=t1
  have hlowU:=hlowU (@StRel.low (Hy (d+1) [D]) _ _ _ _ _ h3)
  have k012:Keep (d+1) G w G2 w2:=(k0.trans k1).trans k2
  have hdefers:a2.defers=[D]:=by
   rw [@StRel.defs (Hy (d+1) [D]) _ _ _ _ _ h3,hdf,nn (E:=Hy (d+1) [D]) (d:=d+1) rfl]
   rfl
  have go:∀u:FrameMode,RecovM u yv→u≠.run→LeavesInM Fence.wide 0 P fn a2.tmps (fun e w'=>∃(v:Value) (G':Gh) (r:AV) (H':List AObj),e=.returned v∧Rep G' w' (some (.ret d)) r v∧HeapRel G' H' w'∧TagOK G' w'∧Keep (d+1) G w G' w'∧H'.length=H.length∧post r H') a2.defers u w2:=by
   intro u hu hur
   rw [hdefers]
   refine ⟨hur,.inr ⟨fun h=>by simp [Fence.wide] at h,.func clo,vc,clo,#[]++vc,rfl,?_,fun _ _=>trivial,?_⟩⟩
   ·show (callFunc clo (#[]++vc)).run P w2=_
    exact hcall _ _
   refine CallsDIn.mono (@AM0 (Hy (d+1) [D]) P (d+1) clo fc crest idc nc a b ta tb pa pb fa fb (os.map fun o=>.ptr o 0) (s.up++s.own) (U++O) hfc hbc hnc hrc (by simpa using hcl) ha hbn u yv hu hcrest G2 w2 (#[]++vc) (by simpa using hnc') (fun i z v hz hv=>?_) (@StRel.heap (Hy (d+1) [D]) _ _ _ _ _ h3) (@StRel.tags (Hy (d+1) [D]) _ _ _ _ _ h3) (Ae _)) ?_
   ·rw [D3,Fj] at hz
    obtain ⟨o,ho,rfl⟩:=hz
    exact AB1 (r2 i _ v (by simp [ho]) (by simpa using hv)) k2.n k2.blk
   rintro e' u' w3 ⟨v,rfl,hset,G3,hH3,hT3,hk3⟩
   show LeavesInM Fence.wide 0 P fn a2.tmps _ [] (settle u') w3
   rw [hset]
   have h4:=@StRel.called (Hy (d+1) [D]) _ _ _ _ _ _ _ _ _ _ h3 hH3 hT3 hk3 rfl hU (fun o ho=>by rw [hdf] at ho;cases ho) hlowU
   have h5:StRel (d+1) G3 ⟨s.sz,s.fr,U,O,[],none⟩ { tmps:=a2.tmps,defers:=[] } w3:=by
    have q1:=@StRel.size (Hy (d+1) [D]) _ _ _ _ _ h4
    have q2:=@StRel.slots (Hy (d+1) [D]) _ _ _ _ _ h4
    have q3:=@StRel.heap (Hy (d+1) [D]) _ _ _ _ _ h4
    refine ⟨q1,q2,q3,(by rw [Gd hTop];rfl),(fun o ho=>by cases ho),Mp,(fun o ho=>by cases ho),TagOK.to (GI1:=Hy (d+1) [D]) (GI2:=GI) rfl hT3,(fun l hl=>by cases hl),hlowU,J9 hTop⟩
   obtain ⟨v',G4,hrun,hr4,hH4,hT4,hk4,hn4⟩:=hres.run h5 hrs
   refine ⟨v',hrun,v',{ G4 with n:=U.length },r,U,rfl,hr4.cut (by rw [hU,hup];exact hlow),hH4,⟨hT4.ex,hT4.obj,hT4.tail,hT4.globCut (by rw [hn4,hH3.n,Ai];omega)⟩,?_,by rw [hU,hup],hpost⟩
   have kk:=(k012.trans (hk3.less (I4 _))).trans hk4
   exact ⟨kk.fix,kk.slot,by rw [hGn,←hup,←hU];exact Ae _,kk.blk,kk.os,kk.tape,kk.output,kk.size,kk.old.cut (by rw [hn4,hH3.n,Ai];omega)⟩
  cases hrec with
  | normal=>exact go .returning .none (by simp)
  | ret=>exact go .returning .none (by simp)
  | panic t l hone=>exact go _ (.panic t l hone) (by simp)
/-- An end without a panic, where the closure leaves all as it is. -/
theorem KG.fin {P:Program} {rs:List ResultVar} {post:AV→List AObj→Prop} {e:Exit} (he:Recov e (.v .nilIface)) (hres:Res P ⟨sz,fr,up,own,[],none⟩ rs r)
  (hc:∀d,AW P (d+1) crest ⟨nc,A9 b (.v .nilIface) (A9 a (.v .nilIface) (argsF caps)),up++own,[],[],none⟩ (fun e s2=>(e=.normal∨e=.ret)∧s2.defs=[]∧s2.up=up++own)) (hp:post r up) (hlow:Low n r:=by simp):
  KG P crest nc a b caps rs n post e ⟨sz,fr,up,own,[],none⟩:=⟨rfl,.v .nilIface,up,own,r,he,rfl,fun h=>h,hc,hres,hlow,hp⟩
/-- A panic, of which the closure turns objects of the activation alone. -/
theorem KG.finP {P:Program} {rs:List ResultVar} {post:AV→List AObj→Prop} {O:List AObj} {t:TypeId} {vs:List Value} (hone:∀v∈vs,(AV.v v).one=true) (hres:Res P ⟨sz,fr,up,O,[],none⟩ rs r)
  (hc:∀d,AW P (d+1) crest ⟨nc,A9 b (.iface t (.agg (vs.map .v))) (A9 a (.iface t (.agg (vs.map .v))) (argsF caps)),up++own,[],[],none⟩ (fun e s2=>(e=.normal∨e=.ret)∧s2.defs=[]∧s2.up=up++O)) (hp:post r up) (hlow:Low n r:=by simp):
  KG P crest nc a b caps rs n post (.panic (Jl (.iface t (.agg vs.toArray)))) ⟨sz,fr,up,own,[],none⟩:=⟨rfl,.iface t (.agg (vs.map .v)),up,O,r,.panic t vs hone,rfl,fun h=>h,hc,hres,hlow,hp⟩
/-- A nil slice in a cell of an object of whoever waits is an empty one. -/
theorem StLe.nilUp {sz:Nat} {fr:Nat→AV} {up own:List AObj} {dfs:List Nat} {rnd:Option Nat} {n k j0:Nat} {t:TypeId} {cs:List AV} (ho:up[n]? = some (.cells t cs)) (hc:cs[j0]? = some .nil):StLe d ⟨sz,fr,up,own,dfs,rnd⟩ ⟨sz,fr,up.set n (.cells t (cs.set j0 (.slice true k []))),own,dfs,rnd⟩:=by
 have hlt:=(Aa.1 ho).1
 refine ⟨fun G a w h=>?_,by simp,rfl,rfl⟩
 refine ⟨h.size,h.slots,⟨fun i x hx=>?_,?_,h.heap.inj⟩,h.defs,fun o hoo=>?_,h.defsNodup,fun o hoo=>by simpa using h.defsGe o hoo,h.tags,fun l hl=>by simpa using h.rnd l hl,fun x hx=>?_,h.top⟩
 ·simp only at hx
  rw [←Ir _ _ hlt] at hx
  by_cases hi:i=n
  ·subst hi
   rw [k7 (by simp;omega)] at hx
   injection hx with hx
   subst hx
   obtain ⟨vs,h1,h2,h3,h4⟩:=h.heap.obj i (.cells t cs) (A8 ho)
   refine ⟨vs,h1,by simpa using h2,fun j y u p q=>?_,by simpa using h4⟩
   by_cases hj:j=j0
   ·subst hj
    rw [k7 (Aa.1 hc).1] at p
    have e:y=.slice true k []:=by simpa using p.symm
    subst e
    exact (h3 j .nil u hc q).le (.nil _ _)
   rw [Gj (fun e=>hj e.symm)] at p
   exact h3 j y u p q
  rw [Gj (fun e=>hi e.symm)] at hx
  exact h.heap.obj i x hx
 ·have:=h.heap.n;simpa using this
 ·have h1:=h.defsAt o hoo
  simp only at h1 ⊢
  rw [←Ir _ _ hlt]
  by_cases hi:o=n
  ·subst hi
   rw [A8 ho] at h1
   cases h1
  rw [Gj (fun e=>hi e.symm)]
  exact h1
 simp only [Bg] at hx ⊢
 rcases K8 hx with hx|rfl
 ·exact h.low x hx
 intro y hy
 rcases K8 hy with hy|rfl
 ·exact h.low _ (Bd ho) y hy
 simp
theorem R.nilUp {ops:Array Oper} {sz:Nat} {fr:Nat→AV} {up up' own:List AObj} {dfs:List Nat} {rnd:Option Nat} {Q:St→Prop} {l:List Oper} (n j0 k:Nat) {t:TypeId} {cs:List AV} (ho:up[n]? = some (.cells t cs)) (hset:up.set n (.cells t (cs.set j0 (.slice true k [])))=up') (hr:ARun P d ops l ⟨sz,fr,up',own,dfs,rnd⟩ Q) (hc:cs[j0]? = some .nil:=by rfl):
  ARun P d ops l ⟨sz,fr,up,own,dfs,rnd⟩ Q:=by
 subst hset
 exact ye (StLe.nilUp ho hc) hr
/-- A call behind which the objects are some of many. -/
theorem R.callEx {ops:Array Oper} {sz s:Nat} {fr:Nat→AV} {up own:List AObj} {dfs:List Nat} {rnd:Option Nat} {Q:St→Prop} {rest:List Oper} {ty:TypeId} {pos:String} {aft:Array Edge} {ι:Type} {g:FuncId} {xs:List Operand} {ats:Array TypeId} {args:List AV} {r:AV} (up' own':ι→List AObj) (hcall:∀args w,(callFunc g args).run P w=.ok (.enter g args) w)
  (h:ACall P g args (up++own) (fun y H'=>y=r∧∃i,H'=up' i++own' i)) (hl:∀i,(up' i).length=up.length) (hlow:∀i,(∀x∈up,ObjLow up.length x)→∀x∈up' i,ObjLow up.length x)
  (hr:∀i,ARun P d ops rest ⟨sz,A9 s r fr,up' i,own' i,dfs,rnd⟩ Q) (hd:∀i,∀o∈dfs,(up++own)[o]? = some .defs→(up' i++own' i)[o]? = some .defs:=by simp)
  (ha:xs.map (Ba fr)=args:=by exact sL0) (hs:Nat.blt s sz=true:=by rfl):
  ARun P d ops (⟨some s,.call ⟨.value (.func g),xs.toArray,ats⟩,ty,pos,aft,none⟩::rest) ⟨sz,fr,up,own,dfs,rnd⟩ Q:=by
 refine y8 rfl (yd (st:=⟨sz,fr,up,own,dfs,rnd⟩) (Q:=fun st=>∃i,st=⟨sz,A9 s r fr,up' i,own' i,dfs,rnd⟩) (f:=.func g) (first:=[]) (caps:=[]) hcall rfl (by rw [←ha];simp [St.ev]<;>rfl) h (by simpa using hs) (fun y H' _ hy=>?_)) (fun s' e=>by obtain ⟨i,rfl⟩:=e;exact hr i)
 obtain ⟨rfl,i,rfl⟩:=hy
 exact ⟨up' i,own' i,rfl,hl i,fun h=>by rw [hl i] at h ⊢;exact hlow i h,fun hdd o ho=>hd i o ho (hdd o ho),i,rfl⟩
end
end Go.SX
namespace Go.SX
variable [GI:GlobInv]
variable {fr:Nat→AV} {id:Nat} {l:List Oper}
section
variable {P:Program} {d:Nat} {sz:Nat} {up own:List AObj} {dfs:List Nat} {rnd:Option Nat}

theorem ADraw.split {l0:List Oper} {E:List Oper→(Nat→AV)→Prop}:∀(k:Nat) (l:List Oper) (fr:Nat→AV),ADraw P d l0 sz up own dfs rnd E k l fr →
  ∃l2 F2,ADraw P d l0 sz up own dfs rnd (fun l' f=>l'=l2∧f=F2) k l fr∧E l2 F2
 | 0,l,fr,h=>⟨l,fr,⟨rfl,rfl⟩,h⟩
 | _+1,[],_,h=>h.elim
 | k+1,_::l,_,⟨s,y,h1,h2,h3,h4⟩=>by
  obtain ⟨l2,F2,a,b⟩:=ADraw.split k l _ h4
  exact ⟨l2,F2,⟨s,y,h1,h2,h3,a⟩,b⟩

theorem AW.drawQ {id k:Nat} {l:List Oper} {fr:Nat→AV} {K:Exit→St→Prop} (M:List Nat) (hm:P.follows .mixedOrders=true) (hok:okY l [] (Db [.q k [] []]) M=true) (h:ADraw P d l sz up own dfs rnd (fun l' f=>ARun P d l.toArray l' ⟨sz,f,up,own,dfs,rnd⟩ (K .normal)) k l fr):
  AW P d (.region id l.toArray true) ⟨sz,fr,up,own,dfs,rnd⟩ K:=by
 obtain ⟨l2,F2,h1,h2⟩:=ADraw.split k l fr h
 exact AW.chainY (tn:=[]) (S:=[.q k [] []]) (up:=fun _=>up) (own:=fun _=>own) M hm hok rfl rfl (fun _=>rfl) ⟨by simp,l2,F2,fun _ _ _=>h1,h2⟩
theorem W.drawQ {y:Code} {K:Exit→St→Prop} (M:List Nat) (k:Nat) (hm:P.follows .mixedOrders=true) (hok:okY l [] (Db [.q k [] []]) M=true) (h:ADraw P d l sz up own dfs rnd (fun l' f=>ARun P d l.toArray l' ⟨sz,f,up,own,dfs,rnd⟩ (fun s=>AW P d y s K)) k l fr):
  AW P d (.seq (.region id l.toArray true) y) ⟨sz,fr,up,own,dfs,rnd⟩ K:=Pm (AW.drawQ M hm hok h)
theorem W.drawQ0 {K:Exit→St→Prop} (M:List Nat) (k:Nat) (hm:P.follows .mixedOrders=true) (hok:okY l [] (Db [.q k [] []]) M=true) (h:ADraw P d l sz up own dfs rnd (fun l' f=>ARun P d l.toArray l' ⟨sz,f,up,own,dfs,rnd⟩ (K .normal)) k l fr):
  AW P d (.region id l.toArray true) ⟨sz,fr,up,own,dfs,rnd⟩ K:=AW.drawQ M hm hok h
end
end Go.SX
namespace Go.SX
def Gb:=@W.drawQ
end Go.SX


namespace Go.SX
variable [GI:GlobInv]
open Classical
section
variable {P:Program} {d:Nat}
theorem fm {ops:Array Oper} {i:Nat} {o:Oper} {st st':St} {Q:Exit→Act→World→Prop} {K:Act→World→Prop} {G:Gh} {a:Act} {w:World} (ho:ops[i]? = some o) (hg:o.guard=none) (hn:st.rnd=none) (h:AOp P d o st (·=st')) (hr:StRel d G st a w)
  (hk:∀G1 a1 w1,StRel d G1 st' a1 w1→Keep d G w G1 w1→K a1 w1):wpOpIn Fence.wide 0 P ops Q i K a w:=by
 have h1:=h G a w hr Q
 rw [hn] at h1
 refine Rd ho hg (Pn ?_ h1)
 rintro a1 w1 ⟨G1,s,hs,k,_,_,_,rfl⟩
 exact hk G1 a1 w1 hs k
def AEf (e0 e1 e2 e3:Array Edge):Bool:=
 (e0.toList.all fun e => !Region.binds .any e)&&(e1.toList.all fun e => !Region.binds .any e || Nat.beq e.on 0)&&(e2.toList.all fun e => !Region.binds .any e || Nat.beq e.on 0)&&(e3.toList.all fun e => !Region.binds .any e || Nat.blt e.on 3) &&
 (e1.toList.any fun e=>Region.binds .any e&&Nat.beq e.on 0)&&(e2.toList.any fun e=>Region.binds .any e&&Nat.beq e.on 0)&&(e3.toList.any fun e=>Region.binds .any e&&Nat.beq e.on 0)&&(e3.toList.any fun e=>Region.binds .any e&&Nat.beq e.on 1)&&(e3.toList.any fun e=>Region.binds .any e&&Nat.beq e.on 2)
theorem W.flip {id:Nat} {y:Code} {sz:Nat} {fr:Nat→AV} {up own:List AObj} {dfs:List Nat} {K:Exit→St→Prop} {s2 s3 t:Nat} {ta t1 t2 t3:TypeId} {pa p1 p2 p3:String} {e0 e1 e2 e3:Array Edge} (hm:P.follows .mixedOrders=true) (hok:AEf e0 e1 e2 e3=true)
  (hz:∀w,(zeroValue t).run P w=.ok (.bool false) w) (hsz:∀w,(sizeOf t).run P w=.ok 1 w) (hagg:∀w,(isAgg t).run P w=.ok false w)
  (h:∀b:Bool,AW P d y ⟨sz,A9 s3 (.v (.bool b)) (A9 s2 (.ptr (up.length+own.length) 0) fr),up,own++[.cells t [.v (.bool b)]],dfs,none⟩ K) (hs2:Nat.blt s2 sz=true:=by rfl) (hs3:Nat.blt s3 sz=true:=by rfl):
  AW P d (.seq (.region id #[⟨some s2,.alloc t,ta,pa,e0,none⟩,⟨none,.store t (.tmp s2) (.const (.bool true)),t1,p1,e1,none⟩,⟨none,.store t (.tmp s2) (.const (.bool false)),t2,p2,e2,none⟩,⟨some s3,.load t (.tmp s2),t3,p3,e3,none⟩] true) y) ⟨sz,fr,up,own,dfs,none⟩ K:=by
 refine Pm ?_
 unfold AEf at hok
 simp only [Ah] at hok
 obtain ⟨⟨⟨⟨⟨⟨⟨⟨f0,f1⟩,f2⟩,f3⟩,g1⟩,g2⟩,g30⟩,g31⟩,g32⟩:=hok
 have has:∀{es:Array Edge} {m:Nat},(es.toList.any fun e=>Region.binds .any e&&Nat.beq e.on m)=true→∃e∈es,Region.binds .any e=true∧e.on=m:=fun {es m} h=>by
  obtain ⟨e,he,h⟩:=Zu.1 h
  rw [Ah] at h
  exact ⟨e,by simpa using he,h.1,J7 h.2⟩
 have k0:∀e∈e0,Region.binds .any e=true→False:=fun e he hb=>by
  have:=Ay.1 f0 e (by simpa using he)
  rw [hb] at this
  cases this
 have k1:∀e∈e1,Region.binds .any e=true→e.on=0:=fun e he hb=>by
  have:=Ay.1 f1 e (by simpa using he)
  rw [hb] at this
  exact J7 (by simpa using this)
 have k2:∀e∈e2,Region.binds .any e=true→e.on=0:=fun e he hb=>by
  have:=Ay.1 f2 e (by simpa using he)
  rw [hb] at this
  exact J7 (by simpa using this)
 have k3:∀e∈e3,Region.binds .any e=true→e.on<3:=fun e he hb=>by
  have:=Ay.1 f3 e (by simpa using he)
  rw [hb] at this
  simpa using this
 have q2:s2<sz:=by simpa using hs2
 have q3:s3<sz:=by simpa using hs3
 intro G0 a0 w0 hr0
 refine wpIn_region_any hm ?_
 obtain ⟨ops,hops⟩:∃ops:Array Oper,ops=#[⟨some s2,.alloc t,ta,pa,e0,none⟩,⟨none,.store t (.tmp s2) (.const (.bool true)),t1,p1,e1,none⟩,⟨none,.store t (.tmp s2) (.const (.bool false)),t2,p2,e2,none⟩,⟨some s3,.load t (.tmp s2),t3,p3,e3,none⟩]:=⟨_,rfl⟩
 rw [←hops]
 have o0:ops[0]? = some ⟨some s2,.alloc t,ta,pa,e0,none⟩:=by rw [hops];rfl
 have o1:ops[1]? = some ⟨none,.store t (.tmp s2) (.const (.bool true)),t1,p1,e1,none⟩:=by rw [hops];rfl
 have o2:ops[2]? = some ⟨none,.store t (.tmp s2) (.const (.bool false)),t2,p2,e2,none⟩:=by rw [hops];rfl
 have o3:ops[3]? = some ⟨some s3,.load t (.tmp s2),t3,p3,e3,none⟩:=by rw [hops];rfl
 have hz4:ops.size=4:=by rw [hops];rfl
 have hq4:∀{listed:Array Bool} {q:Nat},q∈Region.ready .any ops listed→q=0∨q=1∨q=2∨q=3:=fun {listed q} hq=>by
  obtain ⟨_,o,ho,_⟩:=mem_ready.1 hq
  have:=(Qo.1 ho).1
  omega
 rw [hz4,show Array.replicate 4 false=#[false,false,false,false] from rfl]
 let S:Bool→St:=fun b=>⟨sz,A9 s2 (.ptr (up.length+own.length) 0) fr,up,own++[.cells t [.v (.bool b)]],dfs,none⟩
 let QQ:Exit→Act→World→Prop:=fun e=>Post d ⟨sz,fr,up,own,dfs,none⟩ G0 w0 (Ta (fun s=>AW P d y s K) K e)
 have hown:∀b,(S b).own[own.length]? = some (.cells t [.v (.bool b)]):=fun b=>by simp [S]
 have hps:∀b,(S b).ev (.tmp s2)=.ptr ((S b).up.length+own.length) 0:=fun b=>by simp [S,St.ev,Ba,A9,AV.strip]
 have st:∀b c:Bool,∀{ty pos aft},AOp P d ⟨none,.store t (.tmp s2) (.const (.bool c)),ty,pos,aft,none⟩ (S b) (·=S c):=fun b c {ty pos aft}=>by
  refine ni (ALh (y:=.v (.bool c)) hsz (hps b) (hown b) rfl rfl rfl (by simp [AV.cells])) ?_
  simp only [S]
  congr 1
  simp [Ca,AV.cells]
 have ld:∀b:Bool,AOp P d ⟨some s3,.load t (.tmp s2),t3,p3,e3,none⟩ (S b) (·=(S b).set s3 (.v (.bool b))):=fun b=>by
  refine AOp.ofV (y:=.v (.bool b)) rfl q3 (OpV.loadObj (y:=.v (.bool b)) (t':=t) (cs:=[.v (.bool b)]) hagg (hps b) ?_ rfl)
  simp [S]
 -- all three have run
 have ph3:∀(b:Bool) (G:Gh) (a:Act) (w:World),StRel d G (S b) a w→Keep d G0 w0 G w→wpAnyIn Fence.wide 0 P .any ops QQ 1 #[true,true,true,false] a w:=fun b G a w hr hk=>by
  refine ⟨fun h0=>?_,fun q hq=>?_⟩
  ·have:3∈Region.ready .any ops #[true,true,true,false]:=mem_ready.2 ⟨rfl,_,o3,fun e he hb=>by
    have:=k3 e he hb
    have h3:e.on=0∨e.on=1∨e.on=2:=by omega
    rcases h3 with h|h|h<;>rw [h]<;>rfl⟩
   rw [h0] at this;cases this
  have h1:=(mem_ready.1 hq).1
  rcases hq4 hq with rfl|rfl|rfl|rfl
  ·cases h1
  ·cases h1
  ·cases h1
  refine fm o3 rfl rfl (ld b) hr fun G1 a1 w1 hr1 hk1=>?_
  refine ⟨sx.2 fun j hj=>?_,G1,_,hr1,hk.trans hk1,rfl,rfl,rfl,h b⟩
  have h1:=(mem_ready.1 hj).1
  rcases hq4 hj with rfl|rfl|rfl|rfl<;>cases h1
 have ph2:∀(b c:Bool) (G:Gh) (a:Act) (w:World),StRel d G (S b) a w→Keep d G0 w0 G w→wpAnyIn Fence.wide 0 P .any ops QQ 2 #[true,c,!c,false] a w:=fun b c G a w hr hk=>by
  refine ⟨fun h0=>?_,fun q hq=>?_⟩
  ·cases c with
   | true =>
    have:2∈Region.ready .any ops #[true,true,false,false]:=mem_ready.2 ⟨rfl,_,o2,fun e he hb=>by rw [k2 e he hb];rfl⟩
    rw [show (!true)=false from rfl] at h0
    rw [h0] at this;cases this
   | false =>
    have:1∈Region.ready .any ops #[true,false,true,false]:=mem_ready.2 ⟨rfl,_,o1,fun e he hb=>by rw [k1 e he hb];rfl⟩
    rw [show (!false)=true from rfl] at h0
    rw [h0] at this;cases this
  obtain ⟨h1,o,ho,he⟩:=mem_ready.1 hq
  rcases hq4 hq with rfl|rfl|rfl|rfl
  ·cases h1
  ·cases c with
   | true=>cases h1
   | false=>exact fm o1 rfl rfl (st b true) hr fun G1 a1 w1 hr1 hk1=>ph3 true G1 a1 w1 hr1 (hk.trans hk1)
  ·cases c with
   | true=>exact fm o2 rfl rfl (st b false) hr fun G1 a1 w1 hr1 hk1=>ph3 false G1 a1 w1 hr1 (hk.trans hk1)
   | false=>cases h1
  rw [o3] at ho
  injection ho with ho
  subst ho
  cases c with
  | true =>
   obtain ⟨e,a1,a2,a3⟩:=has g32
   have:=he e a1 a2
   rw [a3] at this;cases this
  | false =>
   obtain ⟨e,a1,a2,a3⟩:=has g31
   have:=he e a1 a2
   rw [a3] at this;cases this
 have ph1:∀(G:Gh) (a:Act) (w:World),StRel d G (S false) a w→Keep d G0 w0 G w→wpAnyIn Fence.wide 0 P .any ops QQ 3 #[true,false,false,false] a w:=fun G a w hr hk=>by
  refine ⟨fun h0=>?_,fun q hq=>?_⟩
  ·have:1∈Region.ready .any ops #[true,false,false,false]:=mem_ready.2 ⟨rfl,_,o1,fun e he hb=>by rw [k1 e he hb];rfl⟩
   rw [h0] at this;cases this
  obtain ⟨h1,o,ho,he⟩:=mem_ready.1 hq
  rcases hq4 hq with rfl|rfl|rfl|rfl
  ·cases h1
  ·exact fm o1 rfl rfl (st false true) hr fun G1 a1 w1 hr1 hk1=>ph2 true true G1 a1 w1 hr1 (hk.trans hk1)
  ·exact fm o2 rfl rfl (st false false) hr fun G1 a1 w1 hr1 hk1=>ph2 false false G1 a1 w1 hr1 (hk.trans hk1)
  rw [o3] at ho
  injection ho with ho
  subst ho
  obtain ⟨e,a1,a2,a3⟩:=has g31
  have:=he e a1 a2
  rw [a3] at this;cases this
 have hdr:=hr0.drew ({ w0 with drawn:=w0.drawn+1 }).drawn
 refine ⟨fun h0=>?_,fun q hq=>?_⟩
 ·have:0∈Region.ready .any ops #[false,false,false,false]:=mem_ready.2 ⟨rfl,_,o0,fun e he hb=>(k0 e he hb).elim⟩
  rw [h0] at this;cases this
 obtain ⟨h1,o,ho,he⟩:=mem_ready.1 hq
 rcases hq4 hq with rfl|rfl|rfl|rfl
 ·refine fm (st':=S false) o0 rfl rfl ?_ (hr0.drew _) fun G1 a1 w1 hr1 hk1=>ph1 G1 a1 w1 hr1 (((Sl G0 w0 _).keep d).trans hk1)
  exact AOp.alloc (z:=.bool false) hz rfl rfl q2
 ·rw [o1] at ho
  injection ho with ho
  subst ho
  obtain ⟨e,a1,a2,a3⟩:=has g1
  have:=he e a1 a2
  rw [a3] at this;cases this
 ·rw [o2] at ho
  injection ho with ho
  subst ho
  obtain ⟨e,a1,a2,a3⟩:=has g2
  have:=he e a1 a2
  rw [a3] at this;cases this
 rw [o3] at ho
 injection ho with ho
 subst ho
 obtain ⟨e,a1,a2,a3⟩:=has g30
 have:=he e a1 a2
 rw [a3] at this;cases this
end
end Go.SX
namespace Go.SX
variable [GI:GlobInv]
variable {P:Program} {d:Nat} {l0:List Oper} {kd:Nat} {ops:Array Oper} {rest:List Oper} {sz:Nat} {fr:Nat→AV} {up own:List AObj} {dfs:List Nat} {rnd:Option Nat} {Q:St→Prop} {E:List Oper→(Nat→AV)→Prop} {s:Nat} {ty:TypeId} {pos:String} {aft:Array Edge}
variable {dst:Option Nat} {st:St} {t u:TypeId} {x:Operand} {y:AV}
/-- A type that is no interface. -/
def Concrete (P:Program) (t:TypeId):Prop:=∃e,P.underlying t=some e∧∀ms,e≠.interface ms
theorem Concrete.of {fs:Array Field} (h:P.underlying t=some (.struct fs)):Concrete P t:=⟨_,h,fun _=>by simp⟩
theorem OpV.makeIface {dst:Option Nat} {gd:Option (Nat×Bool)} {st:St} {t:TypeId} {x:Operand} {y:AV} (hu:Concrete P t) (hx:st.ev x=y):OpV P d ⟨dst,.makeInterface t x,ty,pos,aft,gd⟩ st (.iface t y):=
 Cd (by intro c h;cases h) fun G a w h=>by
  obtain ⟨e,hu,hn⟩:=hu
  refine ⟨.iface t (a.eval x),?_,.iface _ _ _ _ (hx ▸ h.eval x)⟩
  cases e<;>first|exact absurd rfl (hn _)|(simp [execOp,Instr.makeInterface,run_underlying hu])
theorem OpV.neqNil {dst:Option Nat} {gd:Option (Nat×Bool)} {st:St} {t u tp:TypeId} {x:Operand} {y:AV} {ms:Array (String×TypeId)} (hu:P.underlying t=some (.interface ms)) (hx:st.ev x=.iface tp y):OpV P d ⟨dst,.binOp .neq t x (.const .nilIface) u,ty,pos,aft,gd⟩ st (.v (.bool true)):=
 Cd (by intro c h;cases h) fun G a w h=>by
  refine ⟨.bool true,?_,.v _ _⟩
  have h1:=hx ▸ h.eval x
  generalize hv:a.eval x=v at h1
  cases h1 with
  | iface _ _ _ u hr =>
   have hq:∀n:Nat,(Op.equalIn (n+1) t (.iface tp u) .nilIface).run P w=.ok false w:=fun n=>by simp [Op.equalIn,run_underlying hu]
   have he:a.eval (.const .nilIface)=.nilIface:=rfl
   simp [execOp,hv,he,eqGuard,binOp,Op.equal,Op.maxDepth,hq 9999]
theorem OpV.neqNil0 {dst:Option Nat} {gd:Option (Nat×Bool)} {st:St} {t u:TypeId} {x:Operand} {ms:Array (String×TypeId)} (hu:P.underlying t=some (.interface ms)) (hx:st.ev x=.v .nilIface):OpV P d ⟨dst,.binOp .neq t x (.const .nilIface) u,ty,pos,aft,gd⟩ st (.v (.bool false)):=
 Cd (by intro c h;cases h) fun G a w h=>by
  refine ⟨.bool false,?_,.v _ _⟩
  have h1:=E1 h hx
  have hq:∀n:Nat,(Op.equalIn (n+1) t .nilIface .nilIface).run P w=.ok true w:=fun n=>by simp [Op.equalIn,run_underlying hu]
  have he:a.eval (.const .nilIface)=.nilIface:=rfl
  simp [execOp,h1,he,eqGuard,binOp,Op.equal,Op.maxDepth,hq 9999]
theorem OpV.typeAssert {dst:Option Nat} {gd:Option (Nat×Bool)} {st:St} {t u:TypeId} {x:Operand} {y:AV} (hu:Concrete P u) (hx:st.ev x=.iface u y):OpV P d ⟨dst,.typeAssert x t u false,ty,pos,aft,gd⟩ st y:=
 Cd (by intro c h;cases h) fun G a w h=>by
  obtain ⟨e,hu,hn⟩:=hu
  have h1:=hx ▸ h.eval x
  generalize hv:a.eval x=v at h1
  cases h1 with
  | iface _ _ _ z hr =>
   refine ⟨z,?_,hr⟩
   cases e<;>first|exact absurd rfl (hn _)|(simp [execOp,hv,Instr.typeAssert,run_underlying hu])
theorem R.makeIface (hu:Concrete P t) (hr:ARun P d ops rest ⟨sz,A9 s (.iface t y) fr,up,own,dfs,rnd⟩ Q) (hx:Ba fr x=y:=by exact sL0) (hs:Nat.blt s sz=true:=by rfl):
  ARun P d ops (⟨some s,.makeInterface t x,ty,pos,aft,none⟩::rest) ⟨sz,fr,up,own,dfs,rnd⟩ Q:=R4 rfl rfl hs (OpV.makeIface hu hx) hr
theorem D.makeIface (hu:Concrete P t) (hr:ADraw P d l0 sz up own dfs rnd E kd rest (A9 s (.iface t y) fr)) (hx:Ba fr x=y:=by exact sL0) (hs:Nat.blt s sz=true:=by rfl):
  ADraw P d l0 sz up own dfs rnd E (kd+1) (⟨some s,.makeInterface t x,ty,pos,aft,none⟩::rest) fr:=
 ⟨s,_,rfl,by simpa using hs,fun f0 hag=>(OpV.makeIface hu ((agr hag (by simp [Op.operands,Call.operands])).trans hx)),hr⟩
theorem R.neqNil {tp:TypeId} {ms:Array (String×TypeId)} (hu:P.underlying t=some (.interface ms)) (hr:ARun P d ops rest ⟨sz,A9 s (.v (.bool true)) fr,up,own,dfs,rnd⟩ Q) (hx:Ba fr x=.iface tp y:=by exact sL0) (hs:Nat.blt s sz=true:=by rfl):
  ARun P d ops (⟨some s,.binOp .neq t x (.const .nilIface) u,ty,pos,aft,none⟩::rest) ⟨sz,fr,up,own,dfs,rnd⟩ Q:=R4 rfl rfl hs (OpV.neqNil hu hx) hr
theorem R.neqNil0 {ms:Array (String×TypeId)} (hu:P.underlying t=some (.interface ms)) (hr:ARun P d ops rest ⟨sz,A9 s (.v (.bool false)) fr,up,own,dfs,rnd⟩ Q) (hx:Ba fr x=.v .nilIface:=by exact sL0) (hs:Nat.blt s sz=true:=by rfl):
  ARun P d ops (⟨some s,.binOp .neq t x (.const .nilIface) u,ty,pos,aft,none⟩::rest) ⟨sz,fr,up,own,dfs,rnd⟩ Q:=R4 rfl rfl hs (OpV.neqNil0 hu hx) hr
theorem D.typeAssert (hu:Concrete P u) (hr:ADraw P d l0 sz up own dfs rnd E kd rest (A9 s y fr)) (hx:Ba fr x=.iface u y:=by exact sL0) (hs:Nat.blt s sz=true:=by rfl):
  ADraw P d l0 sz up own dfs rnd E (kd+1) (⟨some s,.typeAssert x t u false,ty,pos,aft,none⟩::rest) fr:=
 ⟨s,_,rfl,by simpa using hs,fun f0 hag=>(OpV.typeAssert hu ((agr hag (by simp [Op.operands,Call.operands])).trans hx)),hr⟩
theorem D.makeFunc {f:Fn} {as cs:List Operand} {ya yc:List AV} (hr:ADraw P d l0 sz up own dfs rnd E kd rest (A9 s (.fn f ya yc) fr)) (ha:as.map (Ba fr)=ya:=by exact sL0) (hc:cs.map (Ba fr)=yc:=by exact sL0) (hs:Nat.blt s sz=true:=by rfl):
  ADraw P d l0 sz up own dfs rnd E (kd+1) (⟨some s,.makeFunc f as.toArray cs.toArray,ty,pos,aft,none⟩::rest) fr:=
 ⟨s,_,rfl,by simpa using hs,fun f0 hag=>OpV.makeFunc ((u7 hag (by intro x hx;simp [Op.operands,Call.operands,hx])).trans ha) ((u7 hag (by intro x hx;simp [Op.operands,Call.operands,hx])).trans hc),hr⟩
end Go.SX

