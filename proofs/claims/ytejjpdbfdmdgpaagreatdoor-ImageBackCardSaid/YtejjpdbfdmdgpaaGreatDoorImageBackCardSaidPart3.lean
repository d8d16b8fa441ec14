/- On the way (part 3). -/
import Derived.LaidEql
import Derived.Test.YtejjpdbfdmdgpaaGreatDoorImageBackCardSaidPart2
set_option linter.all false
namespace Go.SX
variable [GI:GlobInv]
variable {P:Program} {d:Nat} {l0:List Oper} {kd:Nat} {ops:Array Oper} {rest:List Oper} {sz:Nat} {fr:Nat→AV} {up own:List AObj} {dfs:List Nat} {rnd:Option Nat} {Q:St→Prop} {E:List Oper→(Nat→AV)→Prop} {s:Nat} {ty:TypeId} {pos:String} {aft:Array Edge}
theorem OpV.neqNil0 {dst:Option Nat} {gd:Option (Nat×Bool)} {st:St} {t u:TypeId} {x:Operand} {ms:Array (String×TypeId)} (hu:P.underlying t=some (.interface ms)) (hx:st.ev x=.v .nilIface):OpV P d ⟨dst,.binOp .neq t x (.const .nilIface) u,ty,pos,aft,gd⟩ st (.v (.bool false)):=
 Cj (by intro c h;cases h) fun G a w h=>by
  refine ⟨.bool false,?_,.v _ _⟩
  have h1:=Cy h hx
  have hq:∀n:Nat,(Op.equalIn (n+1) t .nilIface .nilIface).run P w=.ok true w:=fun n=>by simp [Op.equalIn,run_underlying hu]
  have he:a.eval (.const .nilIface)=.nilIface:=rfl
  simp [execOp,h1,he,eqGuard,binOp,Op.equal,Op.maxDepth,hq 9999]
theorem R.neqNil0 {t u:TypeId} {x:Operand} {ms:Array (String×TypeId)} (hu:P.underlying t=some (.interface ms)) (hr:ARun P d ops rest ⟨sz,A6 s (.v (.bool false)) fr,up,own,dfs,rnd⟩ Q) (hx:Bb fr x=.v .nilIface:=by exact sL0) (hs:Nat.blt s sz=true:=by rfl):
  ARun P d ops (⟨some s,.binOp .neq t x (.const .nilIface) u,ty,pos,aft,none⟩::rest) ⟨sz,fr,up,own,dfs,rnd⟩ Q:=Rj rfl rfl hs (OpV.neqNil0 hu hx) hr
theorem D.makeFunc {f:Fn} {as cs:List Operand} {ya yc:List AV} (hr:ADraw P d l0 sz up own dfs rnd E kd rest (A6 s (.fn f ya yc) fr)) (ha:as.map (Bb fr)=ya:=by exact sL0) (hc:cs.map (Bb fr)=yc:=by exact sL0) (hs:Nat.blt s sz=true:=by rfl):
  ADraw P d l0 sz up own dfs rnd E (kd+1) (⟨some s,.makeFunc f as.toArray cs.toArray,ty,pos,aft,none⟩::rest) fr:=
 ⟨s,_,rfl,by simpa using hs,fun f0 hag=>OpV.makeFunc ((yi hag (by intro x hx;simp [Op.operands,Call.operands,hx])).trans ha) ((yi hag (by intro x hx;simp [Op.operands,Call.operands,hx])).trans hc),hr⟩
end Go.SX
namespace Go.SX
open Go
variable [GI:GlobInv]
variable {P:Program} {d:Nat} {s:St} {K K':Exit→St→Prop}
/-- Ways that meet again, and what is known of all of them. -/
theorem W.joinP {a b:Code} (T:St) (Q:Prop) (h1:AW P d a s (P2 (fun s=>StLe d s T∧Q) K)) (h2:Q→AW P d b T K):AW P d (.seq a b) s K:=by
 refine Oa (h1.mono fun e s' hs=>?_)
 cases e with
 | normal=>exact AW.le hs.1 (h2 hs.2)
 | exit i=>exact hs
 | goto i=>exact hs
 | ret=>exact hs
 | panic c=>exact hs
 | outgrown=>exact hs
theorem K.thJP {T:St} {Q:Prop} (h:StLe d s T) (q:Q):P2 (fun s=>StLe d s T∧Q) K' .normal s:=⟨h,q⟩
/-- The same, where objects that one of the ways made are let go. -/
theorem W.joinC {a b:Code} (T:St) (Q:Prop) (h1:AW P d a s (P2 (fun s=>StCut d s T∧Q) K)) (h2:Q→AW P d b T K) (ho:T.own.length=s.own.length:=by rfl):AW P d (.seq a b) s K:=by
 intro G a0 w hr
 refine wpIn_seq (wpIn_mono (h1 G a0 w hr) ?_)
 rintro e a1 w1 ⟨G1,st1,h1,k1,e1,e2,e3,hk⟩
 cases e with
 | normal =>
  obtain ⟨⟨c1,c2,c3,c4,c5⟩,hq⟩:=hk
  have hnE:(T.up++T.own).length=G.n:=by
   rw [hr.heap.n]
   simp only [Ao]
   have:=c2.trans e1
   omega
  have k2:Keep d G w { G1 with n:=(T.up++T.own).length } w1:=⟨k1.fix,k1.slot,by rw [←hnE];exact Aj _,k1.blk,k1.os,k1.tape,k1.output,k1.size,k1.old.cut (by rw [h1.heap.n];exact c1)⟩
  have:=h2 hq _ a1 w1 (c5 _ _ _ h1)
  rw [Fj hr k2 (c3.trans e2)] at this
  exact wpIn_mono this fun e _ _ hp=>hp.next k2 (c2.trans e1) (c3.trans e2) (c4.trans e3)
 | exit id=>exact ⟨G1,st1,h1,k1,e1,e2,e3,hk⟩
 | goto l=>exact ⟨G1,st1,h1,k1,e1,e2,e3,hk⟩
 | ret=>exact ⟨G1,st1,h1,k1,e1,e2,e3,hk⟩
 | panic ch=>exact ⟨G1,st1,h1,k1,e1,e2,e3,hk⟩
 | outgrown=>exact ⟨G1,st1,h1,k1,e1,e2,e3,hk⟩
theorem K.thJC {T:St} {Q:Prop} (h:StCut d s T) (q:Q):P2 (fun s=>StCut d s T∧Q) K' .normal s:=⟨h,q⟩
end Go.SX

