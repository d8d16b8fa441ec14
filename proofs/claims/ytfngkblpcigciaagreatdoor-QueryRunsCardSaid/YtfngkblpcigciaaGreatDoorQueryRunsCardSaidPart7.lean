/- On the way (part 7). -/
import Derived.Shelf.Strings.Builder1
import Derived.Lib.ItoaLen
import Derived.Test.YtfngkblpcigciaaGreatDoorQueryRunsCardSaidPart6
set_option linter.all false
namespace Go.SX.Nb
open Go Go.SX Go.Proofs
variable [ErrAt]
set_option maxRecDepth 4000
/-! The columns on the way through moves. -/
/-! fuse: trees in columns' places. -/
theorem Mf {k:List Expr} {i:Nat} (h:i<k.length):(k.map Ae)[i]? = some (Ae (k.getD i Am))∧k.getD i Am∈k∧∀(f:Expr→Rs) (d:Rs),(k.map f).getD i d=f (k.getD i Am):=by
 have e:k.getD i Am=k[i]:=by rw [D6,Aa h];rfl
 rw [e]
 refine ⟨by simp [h],Br h,fun f d=>?_⟩
 rw [D6,C8,Aa h]
 rfl
theorem yj {e:Expr} (h:Cu e=true):(e.op=5→e.kids.length=2)∧(e.op=3∨e.op=4→e.kids.length=1)∧(e.op=6→Bv e.text=(e.kids.length:Int))∧(e.op=1∨e.op=2∨e.op=3∨e.op=4∨e.op=5∨e.op=6):=by
 cases Hf h with
 | val v hp h0=>simp [K5,Expr.op]
 | name t ht=>simp [F8,Expr.op]
 | neg a=>simp [Fy,Expr.op,Expr.kids]
 | no a=>simp [Fy,Expr.op,Expr.kids]
 | bin t a b ht=>simp [Hn,Expr.op,Expr.kids]
 | call t k ht=>simpa [Expr.op,Expr.kids,Expr.text] using ht
def Pr (s:Str):Int:=if s==[111,114] then 0 else if s==[97,110,100] then 1 else if (((((s==[61]) || (s==[33,61])) || (s==[60])) || (s==[60,61])) || (s==[62])) || (s==[62,61]) then 3 else if ((s==[43]) || (s==[45])) || (s==[38]) then 4 else if ((s==[42]) || (s==[47])) || (s==[37]) then 5 else 7
theorem rn (s:Str):Pr s=if 0≤Ba s then Ba s else 7:=by
 by_cases hf:s∈levels.flatten
 ·have h3:(levels.flatten.all fun s=>decide (Pr s=if 0≤Ba s then Ba s else 7))=true:=by kernel_rfl
  exact of_decide_eq_true (B1.1 h3 s hf)
 have hn:=hf
 have h:Ba s = -1:=by
  rcases Kl s with h|⟨h,_⟩
  ·exact absurd h hf
  exact h
 rw [h]
 simp only [levels,List.flatten_cons,List.flatten_nil,Fz,Dz,Dr,By,Fv,or_false,not_or] at hn
 obtain ⟨a1,a2,a3,a4,a5,a6,a7,a8,a9,b1,b2,b3,b4,b5⟩:=hn
 simp [Pr, *]
/-- The level of a node. -/
def lj (e:Expr):Int:=if e.op==4 then 2 else if e.op==3 then 6 else if e.op==5 then Pr e.text else 7
theorem ni {e:Expr} (h:Cu e=true):lj e=(levE e:Int):=by
 unfold lj levE
 split
 ·rfl
 split
 ·rfl
 split
 ·rename_i h5
  have hb:0≤Ba e.text:=by
   have h5':e.op=5:=by simpa using h5
   rw [Qh] at h
   unfold Ge at h
   simp [h5'] at h
   exact h.2.1
  rw [rn,if_pos hb]
  omega
 rfl
theorem AMj (s:Str) (Hp:List AObj):AFun Tryz.prog 150 [Ac s] Hp (A5 (Pr s)):=by
 refine Ah [.tmp 2] [0] Tryz.func150 Tryz.ntmps150 (fun d=>?_)
 refine Z58 ?_;refine Z23 ?_;refine A2 [3] ?_;refine Z91 ?_;refine A2 [3,4] ?_
 refine A3 (fun ht4=>?_) (fun ht4=>?_)
 ·exact vq
 refine Z1 ?_;refine A2 [3,6] ?_
 refine A3 (fun ht6=>?_) (fun ht6=>?_)
 ·exact vq
 refine Ht ⟨23,A9 3 (Ac s) (A9 8 (At ((((((s==[61]) || (s==[33,61])) || (s==[60])) || (s==[60,61])) || (s==[62])) || (s==[62,61]))) (fun _=>.any)),Hp,[],[],none⟩ ?_ ?_
 ·refine vr ?_
  refine A3 (fun ht8=>?_) (fun ht8=>?_)
  ·exact vf
  refine vr ?_
  refine A3 (fun ht8=>?_) (fun ht8=>?_)
  ·exact vf
  refine vr ?_
  refine A3 (fun ht8=>?_) (fun ht8=>?_)
  ·exact vf
  refine vr ?_
  refine A3 (fun ht8=>?_) (fun ht8=>?_)
  ·exact vf
  refine vr ?_
  refine A3 (fun ht8=>?_) (fun ht8=>?_)
  ·exact vf
  refine Z28 ?_;refine A2 [3,8] ?_;exact Z30
 refine A3 (fun ht8=>?_) (fun ht8=>?_)
 ·exact vq
 refine Ht ⟨23,A9 3 (Ac s) (A9 15 (At (((s==[43]) || (s==[45])) || (s==[38]))) (fun _=>.any)),Hp,[],[],none⟩ ?_ ?_
 ·refine Z1 ?_;refine A2 [3,15] ?_
  refine A3 (fun ht15=>?_) (fun ht15=>?_)
  ·refine Dg [3,15] ?_;exact Z77
  refine Z1 ?_;refine A2 [3,15] ?_
  refine A3 (fun ht15=>?_) (fun ht15=>?_)
  ·refine Dg [3,15] ?_;exact Z77
  refine Z28 ?_;refine A2 [3,15] ?_;exact Z30
 refine A3 (fun ht15=>?_) (fun ht15=>?_)
 ·exact vq
 refine Ht ⟨23,A9 19 (At (((s==[42]) || (s==[47])) || (s==[37]))) (fun _=>.any),Hp,[],[],none⟩ ?_ ?_
 ·refine Z1 ?_;refine A2 [3,19] ?_
  refine A3 (fun ht19=>?_) (fun ht19=>?_)
  ·refine Dg [19] ?_;exact Z77
  refine Z1 ?_;refine A2 [3,19] ?_
  refine A3 (fun ht19=>?_) (fun ht19=>?_)
  ·refine Dg [19] ?_;exact Z77
  refine Z28 ?_;refine A2 [19] ?_;exact Z30
 refine A3 (fun ht19=>?_) (fun ht19=>?_)
 ·exact vq
 refine Z18 ?_;refine Z24 ?_;exact A8 (Ai A6) ⟨by simp_all [Pr],rfl⟩

theorem AKd (e:Expr) (Hp:List AObj):AFun Tryz.prog 116 [Ae e] Hp (A5 (lj e)):=by
 refine Ah [.tmp 2] [0] Tryz.func116 Tryz.ntmps116 (fun d=>?_)
 refine Z87 ?_;refine Z8 ?_;refine A2 [1,4] ?_;refine Z91 ?_;refine A2 [1,4,5] ?_
 refine A3 (fun ht5=>?_) (fun ht5=>?_)
 ·refine Z24 ?_;exact AEr
 refine Z1 ?_;refine A2 [1,4,7] ?_
 refine A3 (fun ht7=>?_) (fun ht7=>?_)
 ·refine Z24 ?_;exact AEr
 refine Z1 ?_;refine A2 [1,9] ?_
 refine A3 (fun ht9=>?_) (fun ht9=>?_)
 ·refine Z1 ?_;refine A7 Tryz.call150 (AMj e.text _) ?_;refine A4 ?_;refine Z4 ?_;exact AEr
 refine Z18 ?_;refine Z24 ?_;exact A8 (Ai A6) ⟨by simp_all [lj],rfl⟩

end Go.SX.Nb
namespace Go.Proofs
open Go.Shelf Go.RowKit

section
variable {P:Program} (w:World)

/-- Bytes behind a builder's bytes: what is handed back lies where it lay, or in the next block, or nowhere still. -/
theorem rp {t u ty e:TypeId} {i:TypeInfo} (ht:P.underlying t=some (.slice e)) (hu:P.underlying u=some .string) (hi:P.info? e=some i) (hz:i.zero=some (.int .u8 0)) (hsize:i.size=1) (hby:i.bytes=1)
  (v:Value) (n:Nat) (xs:List Value) (hown:w.ownsRow 0 e 1 v n xs) (s:ByteArray) (hb:n+s.size≤140737488355328):
  ∃v' w',(Builtin.append_ #[t,u] ty #[v,.string s]).run P w=.ok v' w'∧w'.ownsRow 0 e 1 v' (n+s.size) (xs++Lib.strCells s)∧w.grownBy w' v'.ownBlock ∧
   ((v=.slice none 0 0∧v'=v∧s.size=0)∨(∃g cap,v=.slice (some ⟨g,0,none⟩) n cap∧v'=.slice (some ⟨g,0,none⟩) (n+s.size) cap)∨∃cap,v'=.slice (some ⟨w.heap.size,0,none⟩) (n+s.size) cap∧0<n+s.size):=by
 have h63:n+s.size≤maxLen:=by unfold maxLen;omega
 obtain ⟨v',w',hr,h1,h2,h3⟩:=Lib.run_append_own_string (P:=P) w 0 t u ty e i ht hu hi hz hsize hby v n xs hown s h63 hb (Nat.zero_le _)
 have hxl:xs.length=n:=by simpa using hown.1
 refine ⟨v',w',hr,h1,?_⟩
 rcases hown.2 with ⟨rfl,rfl⟩|⟨g,cap,cur,rfl,hbg,hg,hnc,hcm,hcs,htake⟩
 ·by_cases hm:s.size=0
  ·have e1:=h3.2 ⟨rfl,hm⟩
   exact ⟨by rw [e1];exact h2,.inl ⟨rfl,e1,hm⟩⟩
  have hr2:=run_append_nil_string (P:=P) w t u ty e i (.int .u8 0) ht hu hi hz s (by omega) (by omega) (by rw [hby];omega)
  rw [hr] at hr2
  injection hr2 with e1 e2
  refine ⟨?_,.inr (.inr ⟨_,by rw [e1,Nat.zero_add],by omega⟩)⟩
  rw [e2]
  exact ⟨rfl,rfl,rfl,by simp,fun k hk _=>Lib.alloc_old w.drew _ k hk⟩
 by_cases hroom:n+s.size≤cap
 ·have hcs':cur.size=cap:=by simpa using hcs
  have hr2:=Lib.run_append_room_string (P:=P) w t u ty e i ht hu hi hsize g n cap cur hg s hroom (by omega)
  rw [hr] at hr2
  injection hr2 with e1 e2
  exact ⟨by rw [e1];exact h2,.inr (.inl ⟨g,cap,rfl,e1⟩)⟩
 have holds:∀j u,xs[j]? = some u→w.cell? ((⟨g,0,none⟩:Addr).add j)=some u:=hown.cells (g:=g) rfl
 have hr2:=Lib.run_append_grow_string (P:=P) w t u ty e i (.int .u8 0) ht hu hi hz ⟨g,0,none⟩ n cap xs (by rw [hsize];simpa using hxl) holds s (by omega) (by omega) (by rw [hby];exact growslice_fits (by omega) (by omega))
 rw [hr] at hr2
 injection hr2 with e1 e2
 refine ⟨?_,.inr (.inr ⟨_,e1,by omega⟩)⟩
 rw [e2]
 exact ⟨rfl,rfl,rfl,by simp,fun k hk _=>Lib.alloc_old w.drew _ k hk⟩
end

theorem Se {P:Program} {w w':World} {ops:Array Oper} {rest:List Oper} {o:Oper} {a:Act} {Q:Exit→Act→World→Prop} {v v':Value} {s:ByteArray} (hgd:o.guard=none) (sl x:Operand) (t u ty:TypeId)
  (ho:o.op=.call { callee:=.builtin .append,args:=#[sl,x],argTypes:=#[t,u] }) (hty:o.type=ty) (hs:a.eval sl=v) (hx:a.eval x=.string s) (hrun:(Builtin.append_ #[t,u] ty #[v,.string s]).run P w=.ok v' w')
  (h:wpList P ops Q rest (a.put o.dst v') w'):wpList P ops Q (o::rest) a w:=by
 refine wpList_plain hgd fun K hK=>?_
 subst hty
 unfold Oper.wp execOp
 simp only [ho,resolve,invoke,builtin,Sem.run_bind,Sem.run_pure,Result.andThen_ok,List.map_toArray,List.map_cons,List.map_nil,hs,hx,hrun]
 exact hK _ _ h

section
variable {P:Program} {ρ:Ren}

set_option maxHeartbeats 1000000 in
set_option maxRecDepth 100000 in
/-- The check of an unused builder within a block of type T. -/
theorem rq (L:Lays.n240 P ρ) (X:Builder.X72 P ρ) {T:TypeId} (hl:liesAt P P.depth T (2 / P.cellsOf T) 0 (ρ.t 72) 1=true) (b:Nat) (w:World) (h0:w.cell? ⟨b,0,none⟩=some (.pointer none)) (hsh:w.shape? b=some (T,2)) (hfz:w.frozen? ⟨b,0,none⟩=false):
  Calls P (ρ.f 240) #[.pointer (some ⟨b,0,none⟩)] w fun e w'=>e=.returned (.tuple #[])∧w'=w.setCell ⟨b,0,none⟩ (.pointer (some ⟨b,0,none⟩)):=by
 obtain ⟨j,hj,hjs⟩:=Option.map_eq_some_iff.1 X.sizeBuilder
 have mixed:=L.mixed
 have t72:=L.t72;have a72:=L.a72;have z72:=L.z72;have v72:=L.v72;have u72:=run_underlying L.t72
 have t70:=L.t70;have a70:=L.a70;have z70:=L.z70;have v70:=L.v70;have u70:=run_underlying L.t70
 have t9:=L.t9;have a9:=L.a9;have z9:=L.z9;have v9:=L.v9;have u9:=run_underlying L.t9
 have t4:=L.t4;have a4:=L.a4;have z4:=L.z4;have v4:=L.v4;have u4:=run_underlying L.t4
 have t164:=L.t164;have a164:=L.a164;have z164:=L.z164;have v164:=L.v164;have u164:=run_underlying L.t164
 go_enter L.f240,Body.n240_ntmps ρ
 go_wp2
 rw [Lib.run_to_unsafe w ⟨b,0,none⟩ L.t70 L.t164 hj (by rw [hjs];decide) hsh (Nat.zero_lt_succ 1)]
 simp only [Result.andThen]
 rw [Oper.upon_value]
 go_wp2
 rw [run_callFunc_extern L.f276 (by kernel_rfl) (by kernel_rfl) (by kernel_rfl) (e:=Extern.AbiNoEscape.same) (by kernel_rfl)]
 rw [Lib.run_noEscape]
 simp only [Result.andThen]
 rw [Oper.upon_value]
 go_wp2
 rw [Lib.run_from_unsafe w ⟨b,0,none⟩ L.t164 L.t70 hj hsh hl]
 simp only [Result.andThen]
 rw [Oper.upon_value]
 go_wp2
 go_end0
 exact ⟨rfl,rfl⟩

/-- The check: behind it the first cell holds the builder's own address; nothing else turns. -/
theorem yk (L:Lays.n240 P ρ) (X:Builder.X72 P ρ) {T e:TypeId} (hl:liesAt P P.depth T (2 / P.cellsOf T) 0 (ρ.t 72) 1=true) (b:Nat) (p v:Value) (n:Nat) (bs:List Value) (w:World) (h:N1 T e b p v n bs w):
  Calls P (ρ.f 240) #[.pointer (some ⟨b,0,none⟩)] w fun e' w'=>e'=.returned (.tuple #[])∧N1 T e b (.pointer (some ⟨b,0,none⟩)) v n bs w'∧w.grownBy w' (some b)∧w'.heap.size=w.heap.size:=by
 obtain ⟨h1,hp,h3,h4⟩:=h
 rcases hp with rfl|rfl
 ·refine (rq L X hl b w (by rw [Lib.cell_of_heap h1];rfl) (by simp [World.shape?,h1]) (Lib.frozen_of_heap h1 0)).mono ?_
  rintro e' w' ⟨rfl,rfl⟩
  have hgr:w.grownBy (w.setCell ⟨b,0,none⟩ (.pointer (some ⟨b,0,none⟩))) (some b):=⟨rfl,rfl,rfl,by simp [World.setCell],fun k _ hk=>Below.heap_setCell _ _ _ _ (fun e=>hk (by simp [e]))⟩
  exact ⟨rfl,⟨by simp [World.setCell,Array.getElem?_modify,h1],.inr rfl,h3.kept hgr (.inr h4),h4⟩,hgr,by simp [World.setCell]⟩
 refine (Any.Builder_copyCheck_used L X b w (by rw [Lib.cell_of_heap h1];rfl)).mono ?_
 rintro e' w' ⟨rfl,rfl⟩
 exact ⟨rfl,⟨h1,.inr rfl,h3,h4⟩,⟨rfl,rfl,rfl,Nat.le_refl _,fun _ _ _=>rfl⟩,rfl⟩

set_option maxHeartbeats 1000000 in
set_option maxRecDepth 100000 in
/-- How many bytes there are. -/
theorem bldLen (L:Lays.n170 P ρ) {T e:TypeId} (b:Nat) (p v:Value) (n:Nat) (bs:List Value) (w:World) (h:N1 T e b p v n bs w):
  Calls P (ρ.f 170) #[.pointer (some ⟨b,0,none⟩)] w fun e' w'=>e'=.returned (.int .i64 n)∧w'=w:=by
 obtain ⟨h1,_,h3,_⟩:=h
 obtain ⟨ao,cap,rfl⟩:∃ao cap,v=.slice ao n cap:=by
  rcases h3.2 with ⟨hv,h0⟩|⟨g,cap,cur,hv,_⟩
  ·exact ⟨none,0,by rw [hv,h0]⟩
  exact ⟨_,_,hv⟩
 have c1:w.cell? ⟨b,1,none⟩=some (.slice ao n cap):=by rw [Lib.cell_of_heap h1];rfl
 have mixed:=L.mixed
 have t72:=L.t72;have a72:=L.a72;have z72:=L.z72;have v72:=L.v72;have u72:=run_underlying L.t72
 have t70:=L.t70;have a70:=L.a70;have z70:=L.z70;have v70:=L.v70;have u70:=run_underlying L.t70
 have t37:=L.t37;have a37:=L.a37;have z37:=L.z37;have v37:=L.v37;have u37:=run_underlying L.t37
 have t3:=L.t3;have a3:=L.a3;have z3:=L.z3;have v3:=L.v3;have u3:=run_underlying L.t3
 go_enter L.f170,Body.n170_ntmps ρ
 go_wp2
 go_ret
 exact ⟨rfl,rfl⟩

set_option maxHeartbeats 2000000 in
set_option maxRecDepth 100000 in
/-- A text is written behind it. -/
theorem bldWrite (L:Lays.n166 P ρ) (X:Builder.Extra P ρ) {T:TypeId} (hl:liesAt P P.depth T (2 / P.cellsOf T) 0 (ρ.t 72) 1=true) (hTe:T≠ρ.t 5) (b:Nat) (p v:Value) (n:Nat) (bs:List Value) (s:ByteArray) (w:World) (h:N1 T (ρ.t 5) b p v n bs w)
  (hlen:n+s.size≤140737488355328):
  Calls P (ρ.f 166) #[.pointer (some ⟨b,0,none⟩),.string s] w fun e w'=>e=.returned (.tuple #[.int .i64 s.size,.nilIface])∧∃v',N1 T (ρ.t 5) b (.pointer (some ⟨b,0,none⟩)) v' (n+s.size) (bs++Lib.strCells s) w' ∧
   (w'.os=w.os∧w'.tape=w.tape∧w'.output=w.output∧w.heap.size≤w'.heap.size)∧(∀k,k<w.heap.size→k≠b→v'.ownBlock≠some k→w'.heap[k]? = w.heap[k]?) ∧
   ((v=.slice none 0 0∧v'=v∧s.size=0)∨(∃g cap,v=.slice (some ⟨g,0,none⟩) n cap∧v'=.slice (some ⟨g,0,none⟩) (n+s.size) cap)∨∃cap,v'=.slice (some ⟨w.heap.size,0,none⟩) (n+s.size) cap∧0<n+s.size):=by
 obtain ⟨i0,hi,hz0,hz1,hz2⟩:=info_parts X.infoByte
 have mixed:=L.mixed
 have t72:=L.t72;have a72:=L.a72;have z72:=L.z72;have v72:=L.v72;have u72:=run_underlying L.t72
 have t70:=L.t70;have a70:=L.a70;have z70:=L.z70;have v70:=L.v70;have u70:=run_underlying L.t70
 have t37:=L.t37;have a37:=L.a37;have z37:=L.z37;have v37:=L.v37;have u37:=run_underlying L.t37
 have t3:=L.t3;have a3:=L.a3;have z3:=L.z3;have v3:=L.v3;have u3:=run_underlying L.t3
 have t9:=L.t9;have a9:=L.a9;have z9:=L.z9;have v9:=L.v9;have u9:=run_underlying L.t9
 have t4:=L.t4;have a4:=L.a4;have z4:=L.z4;have v4:=L.v4;have u4:=run_underlying L.t4
 have t164:=L.t164;have a164:=L.a164;have z164:=L.z164;have v164:=L.v164;have u164:=run_underlying L.t164
 have t5:=X.t5;have a5:=X.a5;have z5:=X.z5;have v5:=X.v5;have u5:=run_underlying X.t5
 have e240:∀args w,(callFunc (ρ.f 240) args).run P w=.ok (.enter (ρ.f 240) args) w:=enters_of L.f240 (by kernel_rfl) rfl
 go_enter L.f166,Body.n166_ntmps ρ
 go_wp2_with (go_at_fn (ρ.f 240);refine (yk { L with } X.toX72 hl b p v n bs _ h).mono ?_)
 rintro e w1 ⟨rfl,⟨hbk,_,hown,hne⟩,hg1,hs1⟩
 have c0:w1.cell? ⟨b,0,none⟩=some (.pointer (some ⟨b,0,none⟩)):=by rw [Lib.cell_of_heap hbk];rfl
 have c1:w1.cell? ⟨b,1,none⟩=some v:=by rw [Lib.cell_of_heap hbk];rfl
 obtain ⟨v',w2,hrun,hown',hgrow,hcase⟩:=rp (P:=P) w1 (ty:=ρ.t 37) L.t37 L.t9 hi hz0 hz1 hz2 v n bs hown s hlen
 have hlt:b<w1.heap.size:=(Array.getElem?_eq_some_iff.1 hbk).1
 have hne':v'.ownBlock≠some b:=by
  rcases hcase with ⟨_,e1,_⟩|⟨g,cap,e1,e2⟩|⟨cap,e1,_⟩
  ·rw [e1];exact hne
  ·rw [e2];rw [e1] at hne;exact hne
  rw [e1];simp [Value.ownBlock];omega
 have hb2:w2.heap[b]? = some (.cells #[.pointer (some ⟨b,0,none⟩),v] T (0,0)):=by
  rw [hgrow.block b hlt (fun e=>hne' e.symm)]
  exact hbk
 have d0:w2.cell? ⟨b,0,none⟩=some (.pointer (some ⟨b,0,none⟩)):=by rw [Lib.cell_of_heap hb2];rfl
 have d1:w2.cell? ⟨b,1,none⟩=some v:=by rw [Lib.cell_of_heap hb2];rfl
 have f1:w2.frozen? ⟨b,1,none⟩=false:=Lib.frozen_of_heap hb2 1
 obtain ⟨ao,n',cap,rfl⟩:∃ao n' cap,v'=.slice ao n' cap:=by
  rcases hown'.2 with ⟨hv,_⟩|⟨g,cap,cur,hv,_⟩
  ·exact ⟨_,_,_,hv⟩
  exact ⟨_,_,_,hv⟩
 go_wp2_with (at_builtin;refine Se rfl _ _ (ρ.t 37) (ρ.t 9) (ρ.t 37) rfl rfl rfl rfl hrun ?_)
 go_ret2
 refine ⟨rfl,_,⟨by simp [World.setCell,Array.getElem?_modify,hb2],.inr rfl,hown'.kept (row:=some b) ⟨rfl,rfl,rfl,by simp [World.setCell],fun k _ hk=>Below.heap_setCell _ _ _ _ (fun e=>hk (by simp [e]))⟩ (.inr hne'),hne'⟩,⟨?_,?_,?_,?_⟩,fun k hk hkb hkr=>?_,?_⟩
 ·exact hgrow.os.trans hg1.os
 ·exact hgrow.tape.trans hg1.tape
 ·exact hgrow.output.trans hg1.output
 ·have:=hgrow.size
  simp [World.setCell];omega
 ·rw [Below.heap_setCell _ _ _ _ hkb,hgrow.block k (by omega) (fun e=>hkr e.symm),hg1.block k hk (by simpa using hkb)]
 rw [hs1] at hcase;exact hcase

set_option maxHeartbeats 2000000 in
set_option maxRecDepth 100000 in
/-- Its text: some of its row is frozen; nothing else turns. -/
theorem bldString (L:Lays.n169 P ρ) (X:Builder.Extra P ρ) {T:TypeId} (b:Nat) (p v:Value) (l:List UInt8) (w:World) (h:N1 T (ρ.t 5) b p v l.length (Lib.byteCells l) w) (hcap:∀g,v≠.slice (some ⟨g,0,none⟩) 0 0):
  Calls P (ρ.f 169) #[.pointer (some ⟨b,0,none⟩)] w fun e w'=>e=.returned (.string ⟨l.toArray⟩)∧(w'.os=w.os∧w'.tape=w.tape∧w'.output=w.output∧w.heap.size≤w'.heap.size)∧∀k,v.ownBlock≠some k→w'.heap[k]? = w.heap[k]? := by
 obtain ⟨hbk,_,hown,hne⟩:=h
 have mixed:=L.mixed
 have t72:=L.t72;have a72:=L.a72;have z72:=L.z72;have v72:=L.v72;have u72:=run_underlying L.t72
 have t70:=L.t70;have a70:=L.a70;have z70:=L.z70;have v70:=L.v70;have u70:=run_underlying L.t70
 have t37:=L.t37;have a37:=L.a37;have z37:=L.z37;have v37:=L.v37;have u37:=run_underlying L.t37
 have t127:=L.t127;have a127:=L.a127;have z127:=L.z127;have v127:=L.v127;have u127:=run_underlying L.t127
 have t3:=L.t3;have a3:=L.a3;have z3:=L.z3;have v3:=L.v3;have u3:=run_underlying L.t3
 have t9:=L.t9;have a9:=L.a9;have z9:=L.z9;have v9:=L.v9;have u9:=run_underlying L.t9
 have t5:=X.t5;have a5:=X.a5;have z5:=X.z5;have v5:=X.v5;have u5:=run_underlying X.t5
 rcases hown.2 with ⟨rfl,h0⟩|⟨g,cap,cur,rfl,hbg,hg,hnc,hcm,hcs,htake⟩
 ·have hl:l=[]:=List.eq_nil_of_length_eq_zero h0
  subst hl
  have hUS:=Any.unsafeString_none L X
  have c1:w.drew.cell? ⟨b,1,none⟩=some (.slice none 0 0):=by
   have:w.drew.heap[b]? = some (.cells #[p,.slice none 0 0] T (0,0)):=hbk
   rw [Lib.cell_of_heap this];rfl
  have hSD:(Builtin.unsafeSliceData_ #[(ρ.t 37)] (ρ.t 127) #[.slice none 0 0]).run P w.drew=.ok (.pointer none) w.drew:=rfl
  go_enter L.f169,Body.n169_ntmps ρ
  go_wp2
  go_region_o
  all_goals (go_wp2;go_ret;exact ⟨rfl,⟨rfl,rfl,rfl,Nat.le_refl _⟩,fun _ _=>rfl⟩)
 have hc0:cap≠0:=by
  rintro rfl
  exact hcap g (by rw [show l.length=0 by omega])
 have c1:w.drew.cell? ⟨b,1,none⟩=some (.slice (some ⟨g,0,none⟩) l.length cap):=by
  have:w.drew.heap[b]? = some (.cells #[p,.slice (some ⟨g,0,none⟩) l.length cap] T (0,0)):=hbk
  rw [Lib.cell_of_heap this];rfl
 have hSD:(Builtin.unsafeSliceData_ #[(ρ.t 37)] (ρ.t 127) #[.slice (some ⟨g,0,none⟩) l.length cap]).run P w.drew=.ok (.pointer (some ⟨g,0,none⟩)) w.drew:=
  Lib.run_unsafeSliceData_row _ _ _ _ _ _ hc0
 by_cases hl:l=[]
 ·subst hl
  have hUS:=Any.unsafeString_none L X
  clear hc0 hcap
  simp only [List.length_nil] at c1 hSD
  go_enter L.f169,Body.n169_ntmps ρ
  go_wp2
  go_region_o
  all_goals (go_wp2;go_ret;exact ⟨rfl,⟨rfl,rfl,rfl,Nat.le_refl _⟩,fun _ _=>rfl⟩)
 have hUS:(Builtin.unsafeString_ #[(ρ.t 127),(ρ.t 3)] (ρ.t 9) #[.pointer (some ⟨g,0,none⟩),.int .i64 l.length]).run P w.drew=.ok (.string ⟨l.toArray⟩) (w.drew.freeze ⟨g,0,none⟩ l.length):=by
  refine Lib.run_unsafeString_row w.drew (ρ.t 127) (ρ.t 3) (ρ.t 9) (ρ.t 5) L.t127 X.cellsByte g cur.size (by have hg':w.drew.heap[g]? = some (.cells cur (ρ.t 5) (0,0)):=hg;simp [World.shape?,hg']) l hl (by omega) (by unfold maxLen at hcm;omega) ?_
  intro j x hx
  exact hown.cells (g:=g) rfl j (.int .u8 x.toNat) (by simp [Lib.byteCells,hx])
 have hfz:∀k,g≠k→(w.drew.freeze ⟨g,0,none⟩ l.length).heap[k]? = w.heap[k]? := fun k hk=>by
  unfold World.freeze
  split
  ·rfl
  show (w.heap.modify g _)[k]? = _
  rw [Array.getElem?_modify,if_neg hk]
 have hfs:(w.drew.freeze ⟨g,0,none⟩ l.length).heap.size=w.heap.size:=by
  unfold World.freeze
  split
  ·rfl
  show (w.heap.modify g _).size=_
  simp
 have hfo:(w.drew.freeze ⟨g,0,none⟩ l.length).os=w.os∧(w.drew.freeze ⟨g,0,none⟩ l.length).tape=w.tape∧(w.drew.freeze ⟨g,0,none⟩ l.length).output=w.output:=by
  unfold World.freeze
  split<;>exact ⟨rfl,rfl,rfl⟩
 clear hc0 hcap
 go_enter L.f169,Body.n169_ntmps ρ
 go_wp2
 go_region_o
 all_goals (go_wp2;go_ret;exact ⟨rfl,⟨hfo.1,hfo.2.1,hfo.2.2,Nat.le_of_eq hfs.symm⟩,fun k hk=>hfz k (fun e=>hk (by rw [e];rfl))⟩)
end
end Go.Proofs

namespace Go.SX.Nb
open Go Go.SX Go.Proofs Go.Shelf
variable [ErrAt]
set_option maxRecDepth 8000
/-! show's builder. -/
theorem AKe:Builder.Extra Tryz.prog Tryz.ren155 where
 sizeBuilder:=by kernel_rfl
 liesBuilder:=by kernel_rfl
 t5:=Tryz.underlying5
 a5:=Tryz.isAgg5
 z5:=Tryz.sizeOf5
 v5:=Tryz.zeroValue5
 infoByte:=by kernel_rfl
 cellsByte:=by kernel_rfl
 sizeByte:=by kernel_rfl
 neB5:=by decide
theorem AC5:liesAt Tryz.prog Tryz.prog.depth 126 (2 / Tryz.prog.cellsOf 126) 0 121 1=true:=by kernel_rfl
abbrev Ws (bs:Str):AObj:=.bld 126 5 bs
theorem Dj {n:Nat} {bs:Str}:ObjLow n (Ws bs):=trivial
/-- (*strings.Builder).WriteString. -/
theorem c77 (bs s:Str) (hl:bs.length+s.length≤140737488355328) (o:Nat) (Hp:List AObj) (ho:Hp[o]? = some (Ws bs)):
  ACall Tryz.prog 77 [.ptr o 0,Ac s] Hp (fun r H'=>r=.tup [A5 s.length,.v .nilIface]∧H'=Hp.set o (Ws (bs++s))):=by
 refine ACall.bldWrite ho (fun b p v w h=>?_)
 have hw:=bldWrite Tryz.lays166 AKe (T:=126) AC5 (by decide) b p v bs.length (Lib.byteCells bs) ⟨s.toArray⟩ w h (by rw [Fe];exact hl)
 rw [Fe,Lib.strCells_eq,←Lib.byteCells_append] at hw
 exact hw
/-- (*strings.Builder).Len. -/
theorem c80 (bs:Str) (o:Nat) (Hp:List AObj) (ho:Hp[o]? = some (Ws bs)):AFun Tryz.prog 80 [.ptr o 0] Hp (A5 bs.length):=
 AFun.bldLen ho (fun b p v w h=>bldLen Tryz.lays170 (T:=126) (e:=5) b p v _ _ w h)
/-- (*strings.Builder).String. -/
theorem c78 (bs:Str) (o:Nat) (Hp:List AObj) (ho:Hp[o]? = some (Ws bs)):ACall Tryz.prog 78 [.ptr o 0] Hp (fun r H'=>r=Ac bs∧H'=Hp.set o (.cells 126 [.any,.any])):=
 ACall.bldString ho (fun b p v w h hc=>bldString (ρ:=Tryz.ren155) { Tryz.lays155 with } AKe (T:=126) b p v bs w h hc)
end Go.SX.Nb
namespace Go.SX.Nb
open Go Go.SX Go.Proofs
variable [ErrAt]
set_option maxRecDepth 4000
abbrev AE7:AV:=.v (.tuple #[])
abbrev Hq:Nat:=1099511627776
/-- What node writes. -/
def yl (e:Expr):Prop:=∀(o:Nat) (bs:Str) (Hp:List AObj),Hp[o]? = some (Ws bs)→bs.length+(Ay e).length≤Hq→ACall Tryz.prog 79 [.ptr o 0,Ae e] Hp (fun r H'=>r=AE7∧H'=Hp.set o (Ws (bs++Ay e)))
theorem rr (e:Expr):Ay e=Qn e.op e.text e.val e.kids (e.kids.map Ay):=by
 cases e with
 | mk o t v k=>rw [Ay,Po];rfl
theorem AC6 {k:List Expr} {i:Nat} (h:i<k.length):(k.map Ay).getD i []=Ay (k.getD i Am):=by
 rw [D6,D6,C8,Aa h]
 rfl
theorem Zc (l:List Str) (s:Str):Ho (l++[s])=Ho l++(44::32::s):=by
 induction l with
 | nil=>simp [Ho]
 | cons a r ih=>simp [Ho,ih]
theorem ym {k:List Expr} {x:Nat} (h:x<k.length):(Ho ((k.take (x+1)).map Ay)).drop 2=(Ho ((k.take x).map Ay)).drop 2++(if 0<x then [44,32] else [])++Ay k[x]:=by
 rw [Fw h,Cs,List.map_singleton,Zc]
 cases x with
 | zero=>simp [Ho]
 | succ x =>
  have:2≤(Ho ((k.take (x+1)).map Ay)).length:=by
   rw [Fw (by omega),Cs,List.map_singleton,Zc]
   simp
   omega
  rw [List.drop_append_of_le_length this,if_pos (by omega)]
  simp
theorem AGg {k:List Expr} (x:Nat):(Ho ((k.take x).map Ay)).length≤(Ho (k.map Ay)).length:=by
 have:k.map Ay=(k.take x).map Ay++(k.drop x).map Ay:=by rw [←Cs,af]
 rw [this]
 have:∀a b:List Str,(Ho a).length≤(Ho (a++b)).length:=by
  intro a b
  induction a with
  | nil=>simp [Ho]
  | cons c r ih=>simp [Ho];exact ih
 exact this _ _
theorem i6 {H:List AObj} {o:Nat} {a b:AObj}:(H.set o a).set o b=H.set o b:=Cb _
theorem rt (e:Expr) (he:yl e) (hlev:lj e=(levE e:Int)) (least:Nat) (l0:Int) (hl0:l0=(least:Int)) (o:Nat) (bs:Str) (Hp:List AObj) (ho:Hp[o]? = some (Ws bs)) (hb:bs.length+(Me least e (Ay e)).length≤Hq):ACall Tryz.prog 118 [.ptr o 0,Ae e,A5 l0] Hp (fun r H'=>r=AE7∧H'=Hp.set o (Ws (bs++Me least e (Ay e)))):=by
 subst hl0
 refine Ah [] [0,1,2] Tryz.func118 Tryz.ntmps118 (fun d=>?_)
 refine Z2 ?_;refine A2 [0,2,4] ?_;refine Z23 ?_;refine A7 Tryz.call116 (AKd e _) ?_;refine Z0 ?_;refine A2 [0,4,9] ?_
 refine A3 (fun ht9=>?_) (fun ht9=>?_)
 ·have hz:least≤levE e:=by
   have h:=ht9
   rw [hlev] at h
   simpa using h
  rw [show Me least e (Ay e)=Ay e from if_pos hz] at hb ⊢
  refine Z1 ?_;refine Bk Tryz.call79 ho (by simp) Dj (he o bs _ (Ar ho) (by omega)) ?_;refine w5 ?_;exact A8 .nores ⟨rfl,by simp⟩
 have hz:¬least≤levE e:=by
  have h:=ht9
  rw [hlev] at h
  simpa using h
 rw [show Me least e (Ay e)=40::(Ay e++[41]) from if_neg hz] at hb ⊢
 simp only [Aw,Aq,Bb,Hq] at hb
 refine Oh ?_
 refine Bk Tryz.call77 ho (by simp) Dj (c77 bs [40] (by simp only [Hq,Aq,Aw,Bb] at *;omega) o _ (Ar ho)) ?_
 refine A2 [0,4] ?_;refine Z1 ?_
 refine Bk Tryz.call79 (As ho) (by simp) Dj (he o (bs++[40]) _ (Ar (As ho)) (by simp only [Hq,Aq,Aw,Bb] at *;omega)) ?_
 refine A2 [0] ?_;refine Z22 ?_
 refine Bk Tryz.call77 (As (As ho)) (by simp) Dj (c77 (bs++[40]++Ay e) [41] (by simp only [Hq,Aq,Aw,Bb] at *;omega) o _ (Ar (As (As ho)))) ?_
 refine A2 [] ?_;exact Jz .nores ⟨rfl,by simp⟩

theorem c79:∀(n:Nat) (e:Expr),okE n e→Dk Cu e=true→Dk Hy e=true→yl e:=by
 intro n
 induction n with
 | zero=>exact fun e h=>h.elim
 | succ n ih =>
 intro e hok hnd hrg o bs Hp ho hb
 have hnd0:=hnd
 have hrg0:=hrg
 rw [Ff,Al] at hnd0 hrg0
 have hev:∀y∈e.kids,yl y:=fun y hy=>ih y (hok.2.2 y hy) ((D3 _ _).1 hnd0.2 y hy) ((D3 _ _).1 hrg0.2 y hy)
 have hlv:∀y∈e.kids,lj y=(levE y:Int):=fun y hy=>ni (by have:=(D3 _ _).1 hnd0.2 y hy;rw [Ff,Al] at this;exact this.1)
 obtain ⟨k5,k34,k6,kall⟩:=yj hnd0.1
 have hi64:qj e.val.n:=by
  have:=hrg0.1
  simp only [Hy,Al,decide_eq_true_eq] at this
  exact this
 have hlv0:=ni hnd0.1
 have pe:=rr e
 have hol:=(Ad.1 ho).1
 unfold Qn at pe
 refine Ah [] [0,1] Tryz.func79 Tryz.ntmps79 (fun d=>?_)
 refine Z2 ?_;refine Kr ?_;refine Z2 ?_;refine A7 Tryz.call116 (AKd e _) ?_;refine A4 ?_;refine bm ?_;refine Z1 ?_;refine A2 [0,3,4,11] ?_;refine Z91 ?_;refine A2 [0,3,4,11,12] ?_
 refine A3 (fun ht12=>?_) (fun ht12=>?_)
 ·rw [if_pos ht12] at pe
  refine W.drawQ0 [0,1,3,0,8,24,63] 6 Aj (by kernel_rfl) ?_;refine ee ?_;refine Cy Tryz.call117 (AK1 e.val hi64 _) ?_;refine Ee ?_
  refine Bk Tryz.call77 ho (by simp) Dj (c77 bs (Hd e.val) (by rw [pe] at hb;simp only [Hq] at hb;omega) o _ (Ar ho)) ?_
  exact pj
 rw [if_neg (by rw [ht12];simp)] at pe
 refine Z1 ?_;refine A2 [0,3,4,11,21] ?_
 refine A3 (fun ht21=>?_) (fun ht21=>?_)
 ·rw [if_pos ht21] at pe
  refine W.drawQ0 [0,1,3,0,8,31] 5 Aj (by kernel_rfl) ?_;refine ee ?_;refine Ee ?_
  refine Bk Tryz.call77 ho (by simp) Dj (c77 bs e.text (by rw [pe] at hb;simp only [Hq] at hb;omega) o _ (Ar ho)) ?_
  exact pj
 rw [if_neg (by rw [ht21];simp)] at pe
 refine Z1 ?_;refine A2 [0,3,4,11,29] ?_
 refine A3 (fun ht29=>?_) (fun ht29=>?_)
 ·rw [if_pos ht29] at pe
  have hkl:=k34 (.inl (by simpa using ht29))
  rw [AC6 (by omega)] at pe
  rw [pe] at hb
  simp only [Aw,Hq] at hb
  refine Z13 ?_
  refine Bk Tryz.call77 ho (by simp) Dj (c77 bs [45] (by simp only [Hq,Aq,Aw,Bb] at *;omega) o _ (Ar ho)) ?_
  refine Kr ?_;refine Z22 ?_
  refine A4 (h:=Ag (0) (Ae (e.kids.getD 0 Am)) (fun _=>(Mf (by omega)).1)) (hr:=?_)
  refine A4 ?_
  refine Bk Tryz.call118 (As ho) (by simp) Dj (rt (e.kids.getD 0 Am) (hev _ (Mf (by omega)).2.1) (hlv _ (Mf (by omega)).2.1) (6) _ (rfl) o (bs++[45]) _ (Ar (As ho)) (by simp only [Hq,Aq,Aw,Bb] at *;omega)) ?_
  exact pj
 rw [if_neg (by rw [ht29];simp)] at pe
 refine Z1 ?_;refine A2 [0,3,4,11,41] ?_
 refine A3 (fun ht41=>?_) (fun ht41=>?_)
 ·rw [if_pos ht41] at pe
  have hkl:=k34 (.inr (by simpa using ht41))
  rw [AC6 (by omega)] at pe
  rw [pe] at hb
  simp only [Aw,Aq,xm,Bb,Hq] at hb
  refine Z13 ?_
  refine Bk Tryz.call77 ho (by simp) Dj (c77 bs [110,111,116,32] (by simp only [Hq,Aq,Aw,Bb] at *;omega) o _ (Ar ho)) ?_
  refine Kr ?_;refine Z22 ?_
  refine A4 (h:=Ag (0) (Ae (e.kids.getD 0 Am)) (fun _=>(Mf (by omega)).1)) (hr:=?_)
  refine A4 ?_
  refine Bk Tryz.call118 (As ho) (by simp) Dj (rt (e.kids.getD 0 Am) (hev _ (Mf (by omega)).2.1) (hlv _ (Mf (by omega)).2.1) (2) _ (rfl) o (bs++[110,111,116,32]) _ (Ar (As ho)) (by simp only [Hq,Aq,Aw,Bb] at *;omega)) ?_
  exact pj
 rw [if_neg (by rw [ht41];simp)] at pe
 refine Z1 ?_;refine A2 [0,3,4,11,53] ?_
 refine A3 (fun ht53=>?_) (fun ht53=>?_)
 ·rw [if_pos ht53] at pe
  have h5:e.op=5:=by simpa using ht53
  have hkl:=k5 h5
  have hlv5:levE e=(Ba e.text).toNat:=by simp [levE,h5]
  have hl5:=xl e.text
  rw [AC6 (by omega),AC6 (by omega)] at pe
  rw [pe] at hb
  simp only [Aw,Aq,Hq] at hb
  rw [hlv0,hlv5]
  refine Z1 ?_;refine A2 [0,3,4,5] ?_;refine Z8 ?_;refine A2 [0,3,4,5,57] ?_
  refine A3 (fun ht57=>?_) (fun ht57=>?_)
  ·have h3:(Ba e.text).toNat=3:=by have:=ht57;simp at this;omega
   have hf1:(((Ba e.text).toNat:Int)+1)=((Iz (Ba e.text).toNat:Nat):Int):=by rw [h3];rfl
   refine Z22 ?_;refine A2 [0,3,4,5] ?_;refine Ef ?_;refine Z13 ?_
   refine A4 (h:=Ag (0) (Ae (e.kids.getD 0 Am)) (fun _=>(Mf (by omega)).1)) (hr:=?_)
   refine Z0 ?_
   refine Bk Tryz.call118 ho (by simp) Dj (rt (e.kids.getD 0 Am) (hev _ (Mf (by omega)).2.1) (hlv _ (Mf (by omega)).2.1) (Iz (Ba e.text).toNat) _ (by first|exact hf1|rw [hf2]) o (bs) _ (Ar ho) (by simp only [Hq,Aq,Aw,Bb] at *;omega)) ?_
   refine AIn ?_;refine ee ?_
   refine An (h:=Lp (hl:=fun _=>by simp only [Aw,Bb];omega)) (hr:=?_)
   refine An (h:=Lp (hl:=fun _=>by simp only [Aw,Bb,Aq];omega)) (hr:=?_)
   refine Ee ?_
   refine Bk Tryz.call77 (As ho) (by simp) Dj (c77 (bs++Me (Iz (Ba e.text).toNat) (e.kids.getD 0 Am) (Ay (e.kids.getD 0 Am))) (32::(e.text++[32])) (by simp only [Hq,Aq,Aw,Bb] at *;omega) o _ (Ar (As ho))) ?_
   refine bm ?_;refine Z22 ?_
   refine A4 (h:=Ag (1) (Ae (e.kids.getD 1 Am)) (fun _=>(Mf (by omega)).1)) (hr:=?_)
   refine Z11 ?_
   refine Bk Tryz.call118 (As (As ho)) (by simp) Dj (rt (e.kids.getD 1 Am) (hev _ (Mf (by omega)).2.1) (hlv _ (Mf (by omega)).2.1) ((Ba e.text).toNat+1) _ (by first|rfl|(push_cast;rfl)) o (bs++Me (Iz (Ba e.text).toNat) (e.kids.getD 0 Am) (Ay (e.kids.getD 0 Am))++32::(e.text++[32])) _ (Ar (As (As ho))) (by simp only [Hq,Aq,Aw,Bb] at *;omega)) ?_
   exact pj
  have h3:(Ba e.text).toNat≠3:=by have:=ht57;simp at this;omega
  have hf2:Iz (Ba e.text).toNat=(Ba e.text).toNat:=by unfold Iz;rw [if_neg h3]
  refine Oh ?_
  refine A4 (h:=Ag (0) (Ae (e.kids.getD 0 Am)) (fun _=>(Mf (by omega)).1)) (hr:=?_)
  refine Z0 ?_
  refine Bk Tryz.call118 ho (by simp) Dj (rt (e.kids.getD 0 Am) (hev _ (Mf (by omega)).2.1) (hlv _ (Mf (by omega)).2.1) (Iz (Ba e.text).toNat) _ (by first|exact hf1|rw [hf2]) o (bs) _ (Ar ho) (by simp only [Hq,Aq,Aw,Bb] at *;omega)) ?_
  refine AIn ?_;refine ee ?_
  refine An (h:=Lp (hl:=fun _=>by simp only [Aw,Bb];omega)) (hr:=?_)
  refine An (h:=Lp (hl:=fun _=>by simp only [Aw,Bb,Aq];omega)) (hr:=?_)
  refine Ee ?_
  refine Bk Tryz.call77 (As ho) (by simp) Dj (c77 (bs++Me (Iz (Ba e.text).toNat) (e.kids.getD 0 Am) (Ay (e.kids.getD 0 Am))) (32::(e.text++[32])) (by simp only [Hq,Aq,Aw,Bb] at *;omega) o _ (Ar (As ho))) ?_
  refine bm ?_;refine Z22 ?_
  refine A4 (h:=Ag (1) (Ae (e.kids.getD 1 Am)) (fun _=>(Mf (by omega)).1)) (hr:=?_)
  refine Z11 ?_
  refine Bk Tryz.call118 (As (As ho)) (by simp) Dj (rt (e.kids.getD 1 Am) (hev _ (Mf (by omega)).2.1) (hlv _ (Mf (by omega)).2.1) ((Ba e.text).toNat+1) _ (by first|rfl|(push_cast;rfl)) o (bs++Me (Iz (Ba e.text).toNat) (e.kids.getD 0 Am) (Ay (e.kids.getD 0 Am))++32::(e.text++[32])) _ (Ar (As (As ho))) (by simp only [Hq,Aq,Aw,Bb] at *;omega)) ?_
  exact pj
 rw [if_neg (by rw [ht53];simp)] at pe
 refine Z1 ?_;refine A2 [0,3,83] ?_
 refine A3 (fun ht83=>?_) (fun ht83=>?_)
 ·have hsl:∀x,((Ho ((e.kids.take x).map Ay)).drop 2).length≤((Ho (e.kids.map Ay)).drop 2).length:=fun x=>by have:=AGg (k:=e.kids) x;rw [F5,F5];omega
  have hkl6:=hok.2.1
  rw [pe] at hb
  simp only [Aw,Aq,Bb,Hq] at hb
  refine Ct [0,1,3,0,8,24,63] 6 Aj (by kernel_rfl) ?_;refine ee ?_
  refine An (h:=Lp (hl:=fun _=>by simp only [Aw,Bb];omega)) (hr:=?_)
  refine Ee ?_
  refine Bk Tryz.call77 ho (by simp) Dj (c77 bs (e.text++[40]) (by simp only [Hq,Aq,Aw,Bb] at *;omega) o _ (Ar ho)) ?_
  refine Kr ?_;refine Z48 ?_;refine A2 [0,93,94,95] ?_
  refine Bh (α:=Nat) (fun x=>⟨114,A9 0 (.ptr o 0) (A9 93 (.slice false 6 (e.kids.map Ae)) (A9 94 (A5 (e.kids.length:Nat)) (A9 95 (A5 (x:Nat)) (fun _=>.any)))),Hp.set o (Ws (bs++(e.text++[40])++(Ho ((e.kids.take x).map Ay)).drop 2)),[],[],none⟩) (fun x=>x≤e.kids.length) (fun x=>e.kids.length-x) (0) (Av _) (Bc (by simp [Ho])) rfl (fun x hx=>?_)
  refine Z2 ?_;refine A2 [0,93,94,95,96] ?_
  refine Gz (fun ht96=>?_) (fun ht96=>?_)
  ·have hlt:x<e.kids.length:=by simpa using ht96
   have hst:=ym hlt
   have hsl1:=hsl (x+1)
   have hslx:=hsl x
   refine Xp ?_
   refine A4 (h:=Ag (x) (Ae e.kids[x]) (fun _=>B7 hlt)) (hr:=?_)
   refine A4 ?_;refine vl ?_;refine A2 [0,6,7,93,94,95] ?_;refine Z8 ?_;refine A2 [0,7,93,94,95,101] ?_
   refine A3 (fun ht101=>?_) (fun ht101=>?_)
   ·have h0x:0<x:=by simpa using ht101
    rw [if_pos h0x] at hst
    have hstl:=congrArg List.length hst
    simp only [Aq,Aw,Bb] at hstl
    refine Z22 ?_
    refine Bk Tryz.call77 (As ho) (by simp) Dj (c77 (bs++(e.text++[40])++(Ho ((e.kids.take x).map Ay)).drop 2) [44,32] (by simp only [Hq,Aq,Aw,Bb] at *;omega) o _ (Ar (As ho))) ?_
    refine A2 [0,7,93,94,95] ?_;refine Ef ?_;refine Z28 ?_
    first|refine Bk Tryz.call79 (As ho) (by simp) Dj (hev _ (Br hlt) o (bs++(e.text++[40])++(Ho ((e.kids.take x).map Ay)).drop 2) _ (Ar (As ho)) (by simp only [Hq,Aq,Aw,Bb] at *;omega)) ?_|refine Bk Tryz.call79 (As (As ho)) (by simp) Dj (hev _ (Br hlt) o (bs++(e.text++[40])++(Ho ((e.kids.take x).map Ay)).drop 2++[44,32]) _ (Ar (As (As ho))) (by simp only [Hq,Aq,Aw,Bb] at *;omega)) ?_
    refine A2 [0,93,94,95] ?_;refine jv ?_;refine A2 [0,93,94,95] ?_;refine B5 (x+1) hlt (by omega) ?_
    simp only [hst,i6,C2,Fz]
    exact E5 (own:=[]) (fun _=>.refl _) (by repeat (first|exact C5|refine C4 (by first|exact Eq|exact Un|(simp [or_imp,forall_and,oid]<;>omega)) ?_)) (by simp) (by simp)
   have h0x:¬0<x:=by simpa using ht101
   rw [if_neg h0x] at hst
   have hstl:=congrArg List.length hst
   simp only [Aq,Aw,Bb] at hstl
   refine Z3 ?_;refine Z28 ?_
   first|refine Bk Tryz.call79 (As ho) (by simp) Dj (hev _ (Br hlt) o (bs++(e.text++[40])++(Ho ((e.kids.take x).map Ay)).drop 2) _ (Ar (As ho)) (by simp only [Hq,Aq,Aw,Bb] at *;omega)) ?_|refine Bk Tryz.call79 (As (As ho)) (by simp) Dj (hev _ (Br hlt) o (bs++(e.text++[40])++(Ho ((e.kids.take x).map Ay)).drop 2++[44,32]) _ (Ar (As (As ho))) (by simp only [Hq,Aq,Aw,Bb] at *;omega)) ?_
   refine A2 [0,93,94,95] ?_;refine jv ?_;refine A2 [0,93,94,95] ?_;refine B5 (x+1) hlt (by omega) ?_
   simp only [hst,i6,C2,Fz]
   exact E5 (own:=[]) (fun _=>.refl _) (by repeat (first|exact C5|refine C4 (by first|exact Eq|exact Un|(simp [or_imp,forall_and,oid]<;>omega)) ?_)) (by simp) (by simp)
  have hxe:e.kids.take x=e.kids:=De (by simp at ht96;omega)
  have hslx:=hsl x
  refine Z31 ?_;refine Z22 ?_
  refine Bk Tryz.call77 (As ho) (by simp) Dj (c77 (bs++(e.text++[40])++(Ho ((e.kids.take x).map Ay)).drop 2) [41] (by simp only [Hq,Aq,Aw,Bb] at *;omega) o _ (Ar (As ho))) ?_
  refine A2 [] ?_;refine Hc ?_;exact Jz .nores ⟨rfl,by rw [pe,hxe]<;>simp⟩
 exfalso
 have h6:=kall
 simp at ht12 ht21 ht29 ht41 ht53 ht83
 omega

set_option maxRecDepth 8000
/-! How long a print is. -/
theorem ll {v:Val} (hp:Bu v=true) (hi:qj v.n):(Hd v).length≤402:=by
 unfold Hd
 rw [hp]
 simp only [Bn,Af,if_false]
 split
 ·have:=Lib.itoa_length_le v.n hi.1 hi.2
  omega
 split
 ·rename_i h1 h2
  rw [T8]
  have h3:=fw v.s
  have h4:v.s.length≤200:=by
   have k2:v.kind=2:=by simpa using h2
   simp [Bu,k2] at hp
   omega
  simp
  omega
 split
 ·simp
 split<;>simp
theorem Uo (k:Nat) (x:Expr) (s:Str):(Me k x s).length≤s.length+2:=by
 unfold Me
 split<;>simp
theorem i7 {t:Str} (h:0≤Ba t):t.length≤3:=by
 rcases Kl t with hm|⟨hm,_⟩
 ·have h3:(levels.flatten.all fun s=>decide (s.length≤3))=true:=by kernel_rfl
  exact of_decide_eq_true (B1.1 h3 t hm)
 omega
theorem Wt {t:Str} {n:Nat} (h:Bv t=(n:Int)):t.length≤6:=by
 rcases Gg h with ⟨e,_⟩|⟨e,_⟩|⟨e,_⟩|⟨e,_⟩|⟨e,_⟩|⟨e,_⟩|⟨e,_⟩|⟨e,_⟩<;>rw [e]<;>decide
theorem yn {k:List Expr} (h:∀y∈k,(Ay y).length+10≤440*sizeE y):(Ho (k.map Ay)).length≤440*C6 k:=by
 induction k with
 | nil=>simp [Ho]
 | cons y r ih =>
  have h1:=h y U2
  have h2:=ih (fun z hz=>h z (Pv _ hz))
  simp only [Dl,Ho,C6,Aw,Aq]
  omega
theorem Zd:∀(n:Nat) (e:Expr),sizeE e≤n→Dk Cu e=true→Dk Hy e=true→(Ay e).length+10≤440*sizeE e
 | 0,e,h,_,_=>by rw [H1] at h;omega
 | n+1,e,h,hn,hr=>by
  rw [Ff,Al] at hn hr
  have hk:∀y∈e.kids,(Ay y).length+10≤440*sizeE y:=fun y hy=>by
   obtain ⟨i,hi⟩:=Cg hy
   obtain ⟨hlt,rfl⟩:=Ad.1 hi
   exact Zd n _ (by have:=Vz e hlt;omega) ((D3 _ _).1 hn.2 _ hy) ((D3 _ _).1 hr.2 _ hy)
  have hi:qj e.val.n:=by
   have:=hr.1
   simp only [Hy,Al,decide_eq_true_eq] at this
   exact this
  rw [H1]
  cases Hf hn.1 with
  | val v hp h0 =>
   rw [AG3]
   have:=ll hp (v:=v) hi
   simp only [K5,Expr.kids,C6]
   omega
  | name t ht =>
   rw [AC0]
   have:t.length≤16:=by
    cases t with
    | nil=>simp
    | cons c r =>
     simp only [K2,Al,decide_eq_true_eq] at ht
     exact ht.1.1.1
   simp only [F8,Expr.kids,C6]
   omega
  | neg a =>
   rw [AG4]
   have h1:=Uo 6 a (Ay a)
   have h2:=hk a (by simp [Fy,Expr.kids])
   simp only [Fy,Expr.kids,C6,Aw]
   omega
  | no a =>
   rw [AK7]
   have h1:=Uo 2 a (Ay a)
   have h2:=hk a (by simp [Fy,Expr.kids])
   simp only [Fy,Expr.kids,C6,Aw,Aq,xm,Bb]
   omega
  | bin t a b ht =>
   rw [AG5]
   have h1:=Uo (Iz (Ba t).toNat) a (Ay a)
   have h2:=Uo ((Ba t).toNat+1) b (Ay b)
   have h3:=hk a (by simp [Hn,Expr.kids])
   have h4:=hk b (by simp [Hn,Expr.kids])
   have h5:=i7 ht
   simp only [Hn,Expr.kids,C6,Aw,Aq]
   omega
  | call t k ha =>
   rw [AC1]
   have h1:=Wt ha
   have h2:=yn (k:=k) hk
   rw [←Po] at h2
   simp only [Expr.kids,Aw,Aq,F5,Bb]
   omega
theorem Nj {e:Expr} (hr:Cz e=true) (hg:Dk Hy e=true):(Ay e).length≤132000:=by
 have h1:=K6 hr
 have h2:sizeE e≤300:=by
  unfold Cz at hr
  simp only [Al,decide_eq_true_eq] at hr
  exact hr.1.2
 have:=Zd _ e (Ap _) h1 hg
 omega
set_option maxRecDepth 4000
theorem lm {e:Expr} (h:Cu e=true):e.text.length≤16∧e.kids.length≤8:=by
 cases Hf h with
 | val v hp h0=>exact ⟨by simp [K5,Expr.text],by simp [K5,Expr.kids]⟩
 | name t ht =>
  refine ⟨?_,by simp [F8,Expr.kids]⟩
  show t.length≤16
  cases t with
  | nil=>simp
  | cons c r =>
   simp only [K2,Al,decide_eq_true_eq] at ht
   exact ht.1.1.1
 | neg a=>exact ⟨by simp [Fy,Expr.text],by simp [Fy,Expr.kids]⟩
 | no a=>exact ⟨by simp [Fy,Expr.text],by simp [Fy,Expr.kids]⟩
 | bin t a b ht=>exact ⟨by have:=i7 ht;show t.length≤16;omega,by simp [Hn,Expr.kids]⟩
 | call t k ha =>
  refine ⟨by have:=Wt ha;show t.length≤16;omega,?_⟩
  show k.length≤8
  rcases Gg ha with ⟨_,e⟩|⟨_,e⟩|⟨_,e⟩|⟨_,e⟩|⟨_,e⟩|⟨_,e⟩|⟨_,e⟩|⟨_,e⟩<;>omega
theorem Ze:∀{l:List Expr} {y:Expr},y∈l→depthE y≤E0 l
 | a::r,y,h=>by
  rw [E0]
  rcases By.1 h with rfl|h
  ·omega
  have:=Ze h
  omega
theorem nj:∀(n:Nat) (e:Expr),depthE e≤n→Dk Cu e=true→okE n e
 | 0,e,h,_=>by rw [O5] at h;omega
 | n+1,e,h,hn=>by
  rw [Ff,Al] at hn
  rw [O5] at h
  have hs:=lm hn.1
  refine ⟨by omega,by omega,fun y hy=>nj n y (by have:=Ze hy;omega) ((D3 _ _).1 hn.2 y hy)⟩
theorem ru {e:Expr} (h:Cz e=true):okE 30 e∧sizeE e≤300:=by
 have h1:=K6 h
 unfold Cz at h
 simp only [Al,decide_eq_true_eq] at h
 exact ⟨nj 30 e h.1.1 h1,h.1.2⟩
theorem c44 (n:Nat) (e:Expr) (hok:okE n e) (hn:n≤1048576) (hg:Dk Hy e=true) (Hp:List AObj):AFun Tryz.prog 44 [Ae e] Hp (.tup [Ac (Mc e).1,A5 (Mc e).2]):=by
 refine Ah [.tmp 2,.tmp 3] [0] Tryz.func44 Tryz.ntmps44 (fun d=>?_)
 refine Z13 ?_;refine A2 [1] ?_;refine Z23 ?_;refine A7 Tryz.call61 (c61 n e hok hn _) ?_;refine A4 ?_;refine A2 [1,7] ?_
 refine A3 (fun ht7=>?_) (fun ht7=>?_)
 ·have hsh:Mc e=([],1):=if_pos ht7
  exact AHz
 have hnr:¬(!(C3 e))=true:=by rw [ht7];simp
 have hr:Cz e=true:=by rw [←Ds];simpa using ht7
 have hps:=Nj hr hg
 refine jt ?_;refine Lq (places:=#[(0,2)]) jU (fun w=>by simp) jZ ?_;refine R.box ?_;refine A4 ?_;refine A2 [1,4] ?_;refine Eg ?_;refine R.toBld 0 126 5 ?_;refine Z0 ?_
 refine Mx (n:=0) (x:=Ws (Ay e)) Tryz.call79 (c79 n e hok (K6 hr) hg (oid Hp.length 0) [] _ (by rw [Bi];rfl) (by simp only [Hq,Bb];omega)) ?_
 refine A2 [4] ?_;refine Z32 ?_
 refine A7 Tryz.call80 (c80 (Ay e) (oid Hp.length 0) _ (by rw [Bi];rfl)) ?_
 refine A4 ?_;refine A2 [4,17] ?_
 refine A3 (fun ht17=>?_) (fun ht17=>?_)
 ·have hsh:Mc e=([],3):=by unfold Mc;rw [if_neg hnr,if_pos ht17]
  exact AHz
 have hsh:Mc e=(Ay e,0):=by unfold Mc;rw [if_neg hnr,if_neg (by rw [ht17];simp)]
 refine Oh ?_
 refine Mx (n:=0) (x:=.cells 126 [.any,.any]) Tryz.call78 (c78 (Ay e) (oid Hp.length 0) _ (by rw [Bi];rfl)) ?_
 refine Z0 ?_;refine Z65 ?_;exact AJf

/-! fuse.Forth and plan.Text. -/
/-! The text. -/
/-! ONE LINE EACH. -/
/-! SoundJoins: one behind the other, in one. -/
/-! image: rows forth and back. -/
theorem rx {e:Expr} (h:Cu e=true):L9 e=true:=by
 unfold L9
 rw [Qh] at h
 cases hk:(e.op==1) with
 | false=>rfl
 | true =>
  show Bu e.val=true
  have e1:e.op=1:=by simpa using hk
  cases e with
  | mk o t v k =>
   have e1:o=1:=e1
   subst e1
   rw [Wj] at h
   simp at h
   exact h.1.1.1
mutual
theorem i8:∀e:Expr,Dk Cu e=true→Dk L9 e=true
 | .mk o t v k,h=>by
  rw [Ff,Al] at h ⊢
  exact ⟨rx h.1,Zf k h.2⟩
theorem Zf:∀k:List Expr,Hw Cu k=true→Hw L9 k=true
 | [],_=>rfl
 | e::r,h=>by
  rw [Hw,Al] at h ⊢
  exact ⟨i8 e h.1,Zf r h.2⟩
end
theorem yo {x:Expr} {c:List Col} {row:List Val} (hf:∀v∈row,Fine v) (hr:Dk Hy x=true):Fine (Fx x c row).1:=by
 show Fine (Yx Au x c row).1
 unfold Yx
 split
 ·exact M2
 rename_i h
 simp only [C7,Ju,not_or,Bool.not_eq_false] at h
 exact O6 hf x (i8 x (K6 (by rw [←Ds];exact h.1))) hr
/-- A row that may be walked: as long as its columns are many, its values fine. -/
structure RowI (c:List Col) (row:List Val):Prop where
 len:row.length=c.length
 fine:∀v∈row,Fine v
theorem Wu {c:List Col} {row:List Val} (h:Fb c row=true) (hr:∀v∈row, -9223372036854775808≤v.n∧v.n≤9223372036854775807):RowI c row:=by
 unfold Fb at h
 simp only [Al,beq_iff_eq,B1] at h
 refine ⟨h.1.2,fun v hv=>⟨?_,(hr v hv).1,(hr v hv).2⟩⟩
 obtain ⟨j,hj,rfl⟩:=P5 hv
 have hj2:j<c.length:=by omega
 have:=h.2 (row[j],c[j]) (Be (i:=j) (by rw [Rb];exact ⟨Aa hj,Aa hj2⟩))
 exact this.1
abbrev Nk (r:Rs):AV:=.tup [B8 r.1,A5 r.2]
abbrev nk (l:List Int):AV:=.slice false 1 (l.map A5)
abbrev Wv (c:List Col) (l:List Val):AV:=.agg [Ce c,Fh l]
theorem AMk (e:Int) (Hp:List AObj):AFun Tryz.prog 157 [A5 e] Hp (Nk (Ch e)):=by
 refine Ah [.cell 2 24,.tmp 3] [0] Tryz.func157 Tryz.ntmps157 (fun d=>?_)
 refine ef ?_;refine A2 [0,2] ?_;refine AF6 ?_;refine A4 ?_;refine jz ?_;exact A8 (B4 (Az jA jS) A6)

theorem AMl (n e:Int) (Hp:List AObj):AFun Tryz.prog 224 [A5 n,A5 e] Hp (Nk (Eo (n,e))):=by
 refine Ah [.cell 4 24,.tmp 5] [0,1] Tryz.func224 Tryz.ntmps224 (fun d=>?_)
 refine ef ?_;refine A2 [0,1,4] ?_;refine Z8 ?_;refine A2 [0,1,4,7] ?_
 refine A3 (fun ht7=>?_) (fun ht7=>?_)
 ·have hw:Eo (n,e)=Ch e:=if_pos ht7
  refine Z2 ?_;refine Z49 ?_;refine Z7 ?_;refine Z68 ?_;exact AB1
 have hw:Eo (n,e)=(⟨1,n,[]⟩,0):=if_neg (by rw [ht7];simp)
 refine Z93 ?_;refine A7 Tryz.call197 (AFo _ _) ?_;refine Z7 ?_;refine Z17 ?_;exact AB1

theorem i9 {vs:List Val} {ks:List Int} (hl:ks.length≤vs.length) {x:Nat} (hk:x<ks.length) (hx:Bl vs ks=Bl (vs.drop x) (ks.drop x)):Bl vs ks=((vs[x].kind==ks[x])&&Bl (vs.drop (x+1)) (ks.drop (x+1))):=by
 rw [hx,Gx hk,Gx (show x<vs.length by omega),Bl]
theorem yp (vs:List Val) (ks:List Int) (hks:ks.length≤vs.length) (hk2:ks.length≤1048576) (Hp:List AObj):AFun Tryz.prog 223 [Fh vs,nk ks] Hp (At (Bl vs ks)):=by
 refine Ah [.tmp 4] [0,1] Tryz.func223 Tryz.ntmps223 (fun d=>?_)
 refine Z64 ?_;refine Z32 ?_;refine A2 [0,7,8,9] ?_
 refine Bh (α:=Nat) (fun x=>⟨22,A9 0 (Fh vs) (A9 7 (nk ks) (A9 8 (A5 (ks.length:Nat)) (A9 9 (A5 (x:Nat)) (fun _=>.any)))),Hp,[],[],none⟩) (fun x=>x≤ks.length∧Bl vs ks=Bl (vs.drop x) (ks.drop x)) (fun x=>ks.length-x) (0) ⟨Av _,rfl⟩ (Bc (by simp)) rfl (fun x hx=>?_)
 refine Z2 ?_;refine A2 [0,7,8,9,10] ?_
 refine Gz (fun ht10=>?_) (fun ht10=>?_)
 ·have hlt:x<ks.length:=by simpa using ht10
  have hls:x<vs.length:=by omega
  have hst:=i9 hks hlt hx.2
  refine Xp ?_
  refine A4 (h:=Ag (x) (A5 ks[x]) (fun _=>B7 hlt)) (hr:=?_)
  refine Z11 ?_;refine A2 [0,5,6,7,8,9] ?_;refine Z1 ?_
  refine A4 (h:=Ag (x) (B8 vs[x]) (fun _=>B7 hls)) (hr:=?_)
  refine Z61 ?_;refine A2 [0,7,8,9,20] ?_
  refine A3 (fun ht20=>?_) (fun ht20=>?_)
  ·have hm:Bl vs ks=false:=by rw [hst];simp only [bne_iff_ne,ne_eq] at ht20;simp [ht20]
   exact vk
  have hn:Bl vs ks=Bl (vs.drop (x+1)) (ks.drop (x+1)):=by rw [hst];simp only [bne_eq_false_iff_eq] at ht20;simp [ht20]
  refine Vf ?_;refine A2 [0,7,8,9] ?_;exact AI1
 have hxe:ks.length≤x:=by simpa using ht10
 have hm:Bl vs ks=true:=by rw [hx.2,R7 hxe];cases vs.drop x<;>rfl
 refine Z31 ?_;exact vu

theorem AMm (t:Str) (c:Int) (Hp:List AObj):AFun Tryz.prog 237 [Ac t,A5 c] Hp (.tup [At (Ea t c).1,At (Ea t c).2]):=by
 refine Ah [.tmp 4,.tmp 5] [0,1] Tryz.func237 Tryz.ntmps237 (fun d=>?_)
 refine jp ?_;refine Z23 ?_;refine A2 [1,6] ?_;refine Z91 ?_;refine A2 [1,6,7] ?_
 refine A3 (fun ht7=>?_) (fun ht7=>?_)
 ·exact pm
 refine Z1 ?_;refine A2 [1,6,11] ?_
 refine A3 (fun ht11=>?_) (fun ht11=>?_)
 ·exact pm
 refine Z1 ?_;refine A2 [1,6,15] ?_
 refine A3 (fun ht15=>?_) (fun ht15=>?_)
 ·exact pm
 refine Z1 ?_;refine A2 [1,6,19] ?_
 refine A3 (fun ht19=>?_) (fun ht19=>?_)
 ·exact pm
 refine Z1 ?_;refine A2 [1,6,23] ?_
 refine A3 (fun ht23=>?_) (fun ht23=>?_)
 ·exact pm
 refine Z1 ?_;refine A2 [1,27] ?_
 refine A3 (fun ht27=>?_) (fun ht27=>?_)
 ·exact pm
 refine bi ?_;refine Z17 ?_;exact AJg

theorem AKf (a b:Int) (Hp:List AObj):AFun Tryz.prog 241 [A5 a,A5 b] Hp (.tup [A5 (Ji a b).1,A5 (Ji a b).2]):=by
 refine Ah [.tmp 4,.tmp 5] [0,1] Tryz.func241 Tryz.ntmps241 (fun d=>?_)
 refine jp ?_;refine Z1 ?_
 refine A4 (h:=Iw) (hr:=?_)
 refine A4 ?_;refine A2 [0,1,6] ?_;refine Z8 ?_;refine R.xor ?_;refine Z0 ?_;refine R.xor ?_;refine R.and ?_;refine A4 ?_;refine A2 [6,17] ?_
 refine A3 (fun ht17=>?_) (fun ht17=>?_)
 ·have hm:Ji a b=(0,4):=if_pos ht17
  exact AIf
 have hm:Ji a b=(IntKind.i64.wrap (a-b),0):=if_neg (by rw [ht17];simp)
 refine Oh ?_;exact AEv

theorem AMn (a b:Int) (Hp:List AObj):AFun Tryz.prog 248 [A5 a,A5 b] Hp (.tup [A5 (Wl a b).1,A5 (Wl a b).2]):=by
 refine Ah [.tmp 4,.tmp 5] [0,1] Tryz.func248 Tryz.ntmps248 (fun d=>?_)
 refine jp ?_;refine Z1 ?_
 refine A4 (h:=Ev) (hr:=?_)
 refine A4 ?_;refine A2 [0,1,6] ?_;refine Z8 ?_;refine R.xor ?_;refine Z0 ?_;refine R.xor ?_;refine R.and ?_;refine A4 ?_;refine A2 [6,17] ?_
 refine A3 (fun ht17=>?_) (fun ht17=>?_)
 ·have hm:Wl a b=(0,4):=if_pos ht17
  exact AIf
 have hm:Wl a b=(IntKind.i64.wrap (a+b),0):=if_neg (by rw [ht17];simp)
 refine Oh ?_;exact AEv

theorem AMo (a:Int) (Hp:List AObj):AFun Tryz.prog 225 [A5 a] Hp (.tup [A5 (Ji 0 a).1,A5 (Ji 0 a).2]):=by
 refine Ah [.tmp 2,.tmp 3] [0] Tryz.func225 Tryz.ntmps225 (fun d=>?_)
 refine Z1 ?_;refine A2 [0] ?_;refine Z2 ?_;refine A7 Tryz.call241 (AKf _ _ _) ?_;refine Z61 ?_;refine Z65 ?_;exact A8 (B4 A6 A6)

theorem AKg (a:Int) (Hp:List AObj):AFun Tryz.prog 258 [A5 a] Hp (Bd (J5 a)):=by
 refine Ah [.tmp 2] [0] Tryz.func258 Tryz.ntmps258 (fun d=>?_)
 refine Z58 ?_;refine Z8 ?_;refine A2 [0,4] ?_
 refine A3 (fun ht4=>?_) (fun ht4=>?_)
 ·have hm:J5 a=IntKind.u64.wrap (0-IntKind.u64.wrap a):=if_pos ht4
  refine Z20 ?_;refine Z4 ?_;refine Ex ?_;exact ek
 have hm:J5 a=IntKind.u64.wrap a:=if_neg (by rw [ht4];simp)
 refine Oh ?_;exact AIs

theorem AGh (n:Int):0≤IntKind.u64.wrap n∧IntKind.u64.wrap n<18446744073709551616:=by rw [IntKind.wrap_u64];omega
theorem yq (a:Int):0≤J5 a∧J5 a<18446744073709551616:=by
 unfold J5
 split<;>exact AGh _
theorem AMp (x y:Int) (hx:0≤x∧x<18446744073709551616) (hy:0≤y∧y<18446744073709551616) (Hp:List AObj):AFun Tryz.prog 257 [Bd x,Bd y] Hp (.tup [Bd (x*y / 18446744073709551616),Bd (x*y % 18446744073709551616)]):=by
 obtain ⟨m,rfl⟩:=j2 hx.1
 obtain ⟨n,rfl⟩:=j2 hy.1
 refine K0 (xs:=[.int .u64 m,.int .u64 n]) (v:=.tuple #[.int .u64 ((m*n / 18446744073709551616:Nat):Int),.int .u64 ((m*n % 18446744073709551616:Nat):Int)]) (fun G w=>Ln rfl (fun i y u hy hu=>?_)) (fun w hg=>?_)
 ·match i with
  | 0=>simp at hy hu;subst hy;subst hu;exact .v _ _
  | 1=>simp at hy hu;subst hy;subst hu;exact .v _ _
  | i+2=>simp at hy
 refine (Any.bits_Mul64 Tryz.lays264 m n (by omega) (by omega) w).mono ?_
 rintro e w' ⟨rfl,rfl⟩
 exact ⟨rfl,Go.RowKit.Below.refl _ _⟩
theorem AMq (s t:Str) (Hp:List AObj):AFun Tryz.prog 247 [Ac s,Ac t] Hp (A5 (Lib.compareBytes s t)):=by
 refine K0 (xs:=[sv s,sv t]) (v:=.int .i64 (Lib.compareBytes s t)) (fun G w=>.v _ _) (fun w hg=>?_)
 refine (Any.strings_Compare Tryz.lays106 ⟨s.toArray⟩ ⟨t.toArray⟩ w).mono ?_
 rintro e w' ⟨rfl,rfl⟩
 exact ⟨rfl,Go.RowKit.Below.refl _ _⟩
theorem AMr (a b:Int) (Hp:List AObj):AFun Tryz.prog 249 [A5 a,A5 b] Hp (.tup [A5 (Pj a b).1,A5 (Pj a b).2]):=by
 refine Ah [.tmp 4,.tmp 5] [0,1] Tryz.func249 Tryz.ntmps249 (fun d=>?_)
 refine jp ?_;refine Z2 ?_;refine A7 Tryz.call258 (AKg _ _) ?_;refine A4 ?_;refine A7 Tryz.call258 (AKg _ _) ?_;refine A7 Tryz.call257 (AMp _ _ (yq a) (yq b) _) ?_;refine Z86 ?_;refine A2 [0,1,6,7] ?_;refine Z20 ?_;refine Z0 ?_;refine A2 [6,7,8] ?_;refine Z2 ?_;refine A2 [6,7,8,9] ?_;refine Z23 ?_;refine A2 [6,7,8,9,23] ?_
 refine A3 (fun ht23=>?_) (fun ht23=>?_)
 ·refine Z43 ?_
  refine A4 (h:=Ev) (hr:=?_)
  refine A4 ?_;refine A2 [6,7,8,9] ?_;refine Ef ?_;refine Z19 ?_;refine eg ?_;refine A2 [7,8,26] ?_
  refine A3 (fun ht26=>?_) (fun ht26=>?_)
  ·refine Z1 ?_;refine Ve ?_
   exact A8 (B4 A6 A6) ⟨by
    have w1:IntKind.u64.wrap 9223372036854775808=9223372036854775808:=rfl
    simp_all [Pj]
    try first|(rw [if_pos ht26];simp;done)|(rw [if_neg (by omega)];simp;done),rfl⟩
  refine Z1 ?_;refine A2 [7,34] ?_
  refine A3 (fun ht34=>?_) (fun ht34=>?_)
  ·refine jx ?_;refine Ve ?_
   exact A8 (B4 A6 A6) ⟨by
    have w1:IntKind.u64.wrap 9223372036854775808=9223372036854775808:=rfl
    simp_all [Pj]
    try first|(rw [if_pos ht26];simp;done)|(rw [if_neg (by omega)];simp;done),rfl⟩
  refine Z18 ?_;refine Z20 ?_;refine Z17 ?_
  exact A8 (B4 A6 A6) ⟨by
   have w1:IntKind.u64.wrap 9223372036854775808=9223372036854775808:=rfl
   simp_all [Pj]
   try first|(rw [if_pos ht26];simp;done)|(rw [if_neg (by omega)];simp;done),rfl⟩
 refine Z53 ?_;refine eg ?_;refine A2 [7,8,26] ?_
 refine A3 (fun ht26=>?_) (fun ht26=>?_)
 ·refine Z1 ?_;refine Ve ?_
  exact A8 (B4 A6 A6) ⟨by
   have w1:IntKind.u64.wrap 9223372036854775808=9223372036854775808:=rfl
   simp_all [Pj]
   try first|(rw [if_pos ht26];simp;done)|(rw [if_neg (by omega)];simp;done),rfl⟩
 refine Z1 ?_;refine A2 [7,34] ?_
 refine A3 (fun ht34=>?_) (fun ht34=>?_)
 ·refine jx ?_;refine Ve ?_
  exact A8 (B4 A6 A6) ⟨by
   have w1:IntKind.u64.wrap 9223372036854775808=9223372036854775808:=rfl
   simp_all [Pj]
   try first|(rw [if_pos ht26];simp;done)|(rw [if_neg (by omega)];simp;done),rfl⟩
 refine Z18 ?_;refine Z20 ?_;refine Z17 ?_
 exact A8 (B4 A6 A6) ⟨by
  have w1:IntKind.u64.wrap 9223372036854775808=9223372036854775808:=rfl
  simp_all [Pj]
  try first|(rw [if_pos ht26];simp;done)|(rw [if_neg (by omega)];simp;done),rfl⟩

theorem AMs (a b:Int) (Hp:List AObj):AFun Tryz.prog 250 [A5 a,A5 b] Hp (.tup [A5 (Ty a b).1,A5 (Ty a b).2]):=by
 refine Ah [.tmp 4,.tmp 5] [0,1] Tryz.func250 Tryz.ntmps250 (fun d=>?_)
 refine jp ?_;refine Z19 ?_;refine Z13 ?_;refine A2 [0,1,6] ?_
 refine A3 (fun ht6=>?_) (fun ht6=>?_)
 ·refine Z1 ?_;exact AI2
 refine Z13 ?_;refine Z6 ?_;refine Z0 ?_;refine A2 [0,1,9] ?_
 refine A3 (fun ht9=>?_) (fun ht9=>?_)
 ·refine Z1 ?_;exact AI2
 refine bi ?_
 refine A4 (h:=Q.quo (h0:=fun _=>by simpa using ht6)) (hr:=?_)
 refine Z0 ?_;refine Z17 ?_;exact A8 (B4 A6 A6) ⟨by simp_all [Ty]<;>(rw [if_neg (by rintro ⟨rfl,rfl⟩;simp_all)];exact ⟨rfl,rfl⟩),rfl⟩

theorem ry {a b:Int} (ha : -9223372036854775808≤a∧a≤9223372036854775807):IntKind.i64.wrap (a.tmod b)=a.tmod b:=by
 have h1:(a.tmod b).natAbs≤a.natAbs:=by rw [Int.natAbs_tmod];exact Q0 _ _
 rw [IntKind.wrap_i64]
 rcases Int.le_total 0 a with h|h
 ·have:=Int.tmod_nonneg b h
  omega
 have h2:=Int.tmod_nonneg b (show 0 ≤ -a by omega)
 rw [j3] at h2
 omega
theorem AMt (a b:Int) (ha : -9223372036854775808≤a∧a≤9223372036854775807) (Hp:List AObj):AFun Tryz.prog 251 [A5 a,A5 b] Hp (.tup [A5 (Pk a b).1,A5 (Pk a b).2]):=by
 refine Ah [.tmp 4,.tmp 5] [0,1] Tryz.func251 Tryz.ntmps251 (fun d=>?_)
 refine jp ?_;refine Z23 ?_;refine A2 [0,1,6] ?_;refine Z91 ?_;refine A2 [0,1,6,7] ?_
 refine A3 (fun ht7=>?_) (fun ht7=>?_)
 ·have hm:Pk a b=(0,5):=if_pos ht7
  refine Z1 ?_;exact AIg
 refine Z1 ?_;refine A2 [0,1,9] ?_
 refine A3 (fun ht9=>?_) (fun ht9=>?_)
 ·have hm:Pk a b=(0,0):=by unfold Pk;rw [if_neg (by rw [ht7];simp),if_pos ht9]
  refine Z1 ?_;exact AIg
 have hm:Pk a b=(a.tmod b,0):=by unfold Pk;rw [if_neg (by rw [ht7];simp),if_neg (by rw [ht9];simp),ry ha]
 refine bi ?_
 refine A4 (h:=Q.rem (h0:=fun _=>by simpa using ht7)) (hr:=?_)
 refine Z0 ?_;exact AEv

theorem AKh (a:Int) (Hp:List AObj):AFun Tryz.prog 254 [A5 a] Hp (At false):=by
 refine Ah [.tmp 2] [0] Tryz.func254 Tryz.ntmps254 (fun d=>?_)
 refine Z58 ?_;refine Z20 ?_;exact AIw

theorem AKi (a:Int) (Hp:List AObj):AFun Tryz.prog 255 [A5 a] Hp (At false):=by
 refine Ah [.tmp 2] [0] Tryz.func255 Tryz.ntmps255 (fun d=>?_)
 refine Z58 ?_;refine Z20 ?_;exact AIw

theorem AMu (a b:Int) (Hp:List AObj):AFun Tryz.prog 245 [A5 a,A5 b] Hp (A5 (Jj a b)):=by
 refine Ah [.tmp 4] [0,1] Tryz.func245 Tryz.ntmps245 (fun d=>?_)
 refine Z64 ?_;refine Z2 ?_;refine A7 Tryz.call254 (AKh _ _) ?_;refine A4 ?_;refine Vg ?_;refine Z2 ?_;refine A7 Tryz.call254 (AKh _ _) ?_;refine A4 ?_;refine A2 [0,1,5,6] ?_;refine Z23 ?_;refine A2 [0,1,6,11] ?_
 refine A3 (fun ht11=>?_) (fun ht11=>?_)
 ·cases ht11
 refine Kq ?_;refine A2 [0,1,13] ?_
 refine A3 (fun ht13=>?_) (fun ht13=>?_)
 ·cases ht13
 refine L2 ?_;refine A2 [0,1,16] ?_
 refine A3 (fun ht16=>?_) (fun ht16=>?_)
 ·have hm:Jj a b = -1:=if_pos ht16
  exact bh
 refine L2 ?_;refine A2 [19] ?_
 refine A3 (fun ht19=>?_) (fun ht19=>?_)
 ·have hm:Jj a b=1:=by unfold Jj;rw [if_neg (by rw [ht16];simp),if_pos ht19]
  exact bh
 have hm:Jj a b=0:=by unfold Jj;rw [if_neg (by rw [ht16];simp),if_neg (by rw [ht19];simp)]
 refine Z93 ?_;exact Z69

theorem AMv (a b:Int) (Hp:List AObj):AFun Tryz.prog 246 [A5 a,A5 b] Hp (A5 (Jj a b)):=by
 refine Ah [.tmp 4] [0,1] Tryz.func246 Tryz.ntmps246 (fun d=>?_)
 refine Z64 ?_;refine Z2 ?_;refine A7 Tryz.call255 (AKi _ _) ?_;refine A4 ?_;refine Vg ?_;refine Z2 ?_;refine A7 Tryz.call255 (AKi _ _) ?_;refine A4 ?_;refine A2 [0,1,5,6] ?_;refine Z23 ?_;refine A2 [0,1,6,11] ?_
 refine A3 (fun ht11=>?_) (fun ht11=>?_)
 ·cases ht11
 refine Kq ?_;refine A2 [0,1,13] ?_
 refine A3 (fun ht13=>?_) (fun ht13=>?_)
 ·cases ht13
 refine L2 ?_;refine A2 [0,1,16] ?_
 refine A3 (fun ht16=>?_) (fun ht16=>?_)
 ·have hm:Jj a b = -1:=if_pos ht16
  exact bh
 refine L2 ?_;refine A2 [19] ?_
 refine A3 (fun ht19=>?_) (fun ht19=>?_)
 ·have hm:Jj a b=1:=by unfold Jj;rw [if_neg (by rw [ht16];simp),if_pos ht19]
  exact bh
 have hm:Jj a b=0:=by unfold Jj;rw [if_neg (by rw [ht16];simp),if_neg (by rw [ht19];simp)]
 refine Z93 ?_;exact Z69

theorem yr {l:List Int} {x:Nat} (h:x<l.length) (hx:orI l=orI (l.drop x)):orI l=if l[x] != 0 then l[x] else orI (l.drop (x+1)):=by rw [hx,Gx h,orI]
theorem AMw (l:List Int) (hl:l.length≤1048576) (Hp:List AObj):AFun Tryz.prog 244 [nk l] Hp (A5 (orI l)):=by
 refine Ah [.tmp 2] [0] Tryz.func244 Tryz.ntmps244 (fun d=>?_)
 refine Z58 ?_;refine Z2 ?_;refine Kr ?_;refine Z32 ?_;refine A2 [3,6,7,8] ?_
 refine Bh (α:=Nat) (fun x=>⟨18,A9 3 (A5 0) (A9 6 (nk l) (A9 7 (A5 (l.length:Nat)) (A9 8 (A5 (x:Nat)) (fun _=>.any)))),Hp,[],[],none⟩) (fun x=>x≤l.length∧orI l=orI (l.drop x)) (fun x=>l.length-x) (0) ⟨Av _,rfl⟩ (Bc (by simp)) rfl (fun x hx=>?_)
 refine Z2 ?_;refine A2 [3,6,7,8,9] ?_
 refine Gz (fun ht9=>?_) (fun ht9=>?_)
 ·have hlt:x<l.length:=by simpa using ht9
  have hst:=yr hlt hx.2
  refine jq ?_
  refine A4 (h:=Ag (x) (A5 l[x]) (fun _=>B7 hlt)) (hr:=?_)
  refine Z0 ?_;refine A2 [3,5,6,7,8] ?_;refine Z13 ?_;refine A2 [3,5,6,7,8,14] ?_
  refine A3 (fun ht14=>?_) (fun ht14=>?_)
  ·have hm:orI l=l[x]:=by rw [hst,if_pos ht14]
   refine Z1 ?_;refine Z4 ?_;exact Z67
  have hn:orI l=orI (l.drop (x+1)):=by rw [hst,if_neg (by rw [ht14];simp)]
  refine Vf ?_;refine A2 [3,6,7,8] ?_;exact AI1
 have hxe:l.length≤x:=by simpa using ht9
 have hm:orI l=0:=by rw [hx.2,R7 hxe];rfl
 refine Z31 ?_;refine Z1 ?_;exact AIs

theorem AMx (a b:Val) (Hp:List AObj):AFun Tryz.prog 238 [B8 a,B8 b] Hp (A5 (Pl a b)):=by
 refine Ah [.tmp 4] [0,1] Tryz.func238 Tryz.ntmps238 (fun d=>?_)
 refine pl ?_;refine Z23 ?_;refine A7 Tryz.call120 (wn a _) ?_;refine N4 ?_;refine Bw Tryz.call120 (fun hB=>wn b _) ?_;refine Z95 ?_;refine A2 [2,3,12] ?_
 refine A3 (fun ht12=>?_) (fun ht12=>?_)
 ·have hm:Pl a b=0:=if_pos ht12
  exact bh
 have hm:Pl a b=orI [Jj a.kind b.kind,Jj a.n b.n,Lib.compareBytes a.s b.s]:=if_neg (by rw [ht12];simp)
 refine Z3 ?_;refine Ct [0,1,0,4,15,0,32,0,128,511,0,1024,0,4096,16383,32767,65535,131071] 14 Aj (by kernel_rfl) ?_;refine Z92 ?_;refine Cy Tryz.call245 (AMu _ _ _) ?_;refine Z92 ?_;refine Cy Tryz.call246 (AMv _ _ _) ?_;refine Z92 ?_;refine Ee ?_;refine A7 Tryz.call247 (AMq _ _ _) ?_;refine bn ?_;refine A7 Tryz.call244 (AMw [Jj a.kind b.kind,Jj a.n b.n,Lib.compareBytes a.s b.s] (by simp) _) ?_;refine A4 ?_;exact Z69

theorem AMy (t:Str) (a b:Int) (ha : -9223372036854775808≤a∧a≤9223372036854775807) (Hp:List AObj):AFun Tryz.prog 240 [Ac t,A5 a,A5 b] Hp (Nk (Eo (Dt t a b))):=by
 refine Ah [.cell 6 24,.tmp 7] [0,1,2] Tryz.func240 Tryz.ntmps240 (fun d=>?_)
 refine ef ?_;refine A2 [0,1,2,6] ?_;refine Z23 ?_;refine A2 [1,2,6,8] ?_;refine Z91 ?_;refine A2 [1,2,6,8,9] ?_
 refine A3 (fun ht9=>?_) (fun ht9=>?_)
 ·refine Z1 ?_;refine A7 Tryz.call248 (AMn _ _ _) ?_;exact AAp
 refine Z1 ?_;refine A2 [1,2,6,8,19] ?_
 refine A3 (fun ht19=>?_) (fun ht19=>?_)
 ·refine Z1 ?_;refine A7 Tryz.call241 (AKf _ _ _) ?_;exact AAp
 refine Z1 ?_;refine A2 [1,2,6,8,29] ?_
 refine A3 (fun ht29=>?_) (fun ht29=>?_)
 ·refine Z1 ?_;refine A7 Tryz.call249 (AMr _ _ _) ?_;exact AAp
 refine Z1 ?_;refine A2 [1,2,6,39] ?_
 refine A3 (fun ht39=>?_) (fun ht39=>?_)
 ·refine Z1 ?_;refine A7 Tryz.call250 (AMs _ _ _) ?_;exact AAp
 refine bi ?_;refine A7 Tryz.call251 (AMt _ _ ha _) ?_;refine AAf ?_;refine dx ?_;refine Eu ?_;exact AJh

theorem AMz (a b:Val) (fa:Fine a) (fb:Fine b) (Hp:List AObj):AFun Tryz.prog 239 [.slice false 3 [B8 a,B8 b]] Hp (Nk (Hj a b)):=by
 refine Ah [.cell 2 24,.tmp 3] [0] Tryz.func239 Tryz.ntmps239 (fun d=>?_)
 refine ef ?_;refine A2 [0,2] ?_;refine Xp ?_;refine bb jU jS jZ ?_;refine A7 Tryz.call223 (yp [a,b] [2,2] (by simp) (by simp) _) ?_;refine Z0 ?_;refine A2 [0,2,4] ?_
 refine A3 (fun ht4=>?_) (fun ht4=>?_)
 ·have hm:Hj a b=Ch 10:=if_pos ht4
  refine Xm ?_;refine jz ?_;exact Z15
 have hla:=fa.len
 have hlb:=fb.len
 refine Ct [0,1,3,7,15,0,32,96,224,480,1023,2047,4095] 10 Aj (by kernel_rfl) ?_;refine An ?_
 refine An (h:=Ag (0) (B8 a) (fun _=>show ([B8 a,B8 b]:List AV)[0]? = some (B8 a) from rfl)) (hr:=?_)
 refine Z92 ?_
 refine An (h:=Ag (1) (B8 b) (fun _=>show ([B8 a,B8 b]:List AV)[1]? = some (B8 b) from rfl)) (hr:=?_)
 refine Z34 ?_;refine Ee ?_
 refine A4 (h:=Q.add64 (h1:=fun _=>by omega) (h2:=fun _=>by omega)) (hr:=?_)
 refine Z0 ?_;refine A2 [0,2,12] ?_
 refine A3 (fun ht12=>?_) (fun ht12=>?_)
 ·have hm:Hj a b=Ch 3:=by unfold Hj;rw [if_neg (by rw [ht4];simp),if_pos ht12]
  refine Xm ?_;refine jz ?_;exact Z15
 have hm:Hj a b=(Pi (a.s++b.s),0):=by unfold Hj;rw [if_neg (by rw [ht4];simp),if_neg (by rw [ht12];simp)]
 refine Z18 ?_;refine Ct [0,1,3,7,0,16,48,112,255,511,1023,2047] 8 Aj (by kernel_rfl) ?_;refine An ?_
 refine An (h:=Ag (0) (B8 a) (fun _=>show ([B8 a,B8 b]:List AV)[0]? = some (B8 a) from rfl)) (hr:=?_)
 refine Z34 ?_
 refine An (h:=Ag (1) (B8 b) (fun _=>show ([B8 a,B8 b]:List AV)[1]? = some (B8 b) from rfl)) (hr:=?_)
 refine Q9 ?_
 refine A4 (h:=Lp (hl:=fun _=>by omega)) (hr:=?_)
 refine A7 Tryz.call215 (qi _ _) ?_;refine jz ?_;exact k8

theorem AN0 (t:Str) (a b:Val) (fa:Fine a) (fb:Fine b) (Hp:List AObj):AFun Tryz.prog 222 [Ac t,.slice false 3 [B8 a,B8 b]] Hp (Nk (H0 t a b)):=by
 refine Ah [.cell 4 24,.tmp 5] [0,1] Tryz.func222 Tryz.ntmps222 (fun d=>?_)
 refine ef ?_;refine A2 [0,1,4] ?_;refine Kp ?_;refine Ct [0,0,2,6,0,16,48,126,255,511,1023,1023,2047,8191] 13 Aj (by kernel_rfl) ?_;refine Z10 ?_
 refine An (h:=Ag (0) (B8 a) (fun _=>show ([B8 a,B8 b]:List AV)[0]? = some (B8 a) from rfl)) (hr:=?_)
 refine Z10 ?_
 refine An (h:=Ag (1) (B8 b) (fun _=>show ([B8 a,B8 b]:List AV)[1]? = some (B8 b) from rfl)) (hr:=?_)
 refine An ?_;refine Cy Tryz.call238 (AMx _ _ _) ?_;refine Cy Tryz.call237 (AMm _ _ _) ?_;refine Z92 ?_;refine Ee ?_;refine A4 ?_;refine A2 [0,1,4,6,7] ?_;refine Z2 ?_;refine A2 [0,1,4,6,20] ?_
 refine A3 (fun ht20=>?_) (fun ht20=>?_)
 ·refine Kp ?_;refine Ct [0,1,3,7,0,16,48,112,255] 8 Aj (by kernel_rfl) ?_;refine An ?_
  refine An (h:=Ag (0) (B8 a) (fun _=>show ([B8 a,B8 b]:List AV)[0]? = some (B8 a) from rfl)) (hr:=?_)
  refine Z34 ?_
  refine An (h:=Ag (1) (B8 b) (fun _=>show ([B8 a,B8 b]:List AV)[1]? = some (B8 b) from rfl)) (hr:=?_)
  refine Q9 ?_;refine A4 ?_;refine A2 [4,6,29] ?_
  refine A3 (fun ht29=>?_) (fun ht29=>?_)
  ·have hm:H0 t a b=Ch 10:=by unfold H0;rw [if_pos ht20,if_pos ht29]
   refine Xm ?_;refine Z7 ?_;refine Z68 ?_;exact AEk
  have hm:H0 t a b=(D9 (Ea t (Pl a b)).1,0):=by unfold H0;rw [if_pos ht20,if_neg (by rw [ht29];simp)]
  refine Z93 ?_;refine A7 Tryz.call122 (eu _ _) ?_;exact pq
 refine bj ?_;refine A2 [0,1,4,36] ?_
 refine A3 (fun ht36=>?_) (fun ht36=>?_)
 ·have hm:H0 t a b=Hj a b:=by unfold H0;rw [if_neg (by rw [ht20];simp),if_pos ht36]
  refine Z2 ?_;refine A7 Tryz.call239 (AMz a b fa fb _) ?_;refine Z0 ?_;exact pq
 refine Kq ?_;refine bb jU jS jZ ?_;refine A7 Tryz.call223 (yp [a,b] [1,1] (by simp) (by simp) _) ?_;refine A4 ?_;refine A2 [0,1,4,44] ?_
 refine A3 (fun ht44=>?_) (fun ht44=>?_)
 ·have hm:H0 t a b=Ch 10:=by unfold H0;rw [if_neg (by rw [ht20];simp),if_neg (by rw [ht36];simp),if_pos ht44]
  refine Xm ?_;exact pq
 have hm:H0 t a b=Eo (Dt t a.n b.n):=by unfold H0;rw [if_neg (by rw [ht20];simp),if_neg (by rw [ht36];simp),if_neg (by rw [ht44];simp)]
 refine Z3 ?_;refine Ct [0,0,2,6,14,0,32,96,224,511,1023,1023,4095,8191] 12 Aj (by kernel_rfl) ?_;refine Z10 ?_
 refine An (h:=Ag (0) (B8 a) (fun _=>show ([B8 a,B8 b]:List AV)[0]? = some (B8 a) from rfl)) (hr:=?_)
 refine Z34 ?_
 refine An (h:=Ag (1) (B8 b) (fun _=>show ([B8 a,B8 b]:List AV)[1]? = some (B8 b) from rfl)) (hr:=?_)
 refine Z10 ?_;refine Cy Tryz.call240 (AMy _ _ _ ⟨fa.lo,fa.hi⟩ _) ?_;refine Q9 ?_;exact jr

theorem AGi (s:Str) (n:Int):∃k:Nat,(if (0:Int)<(if (s.length:Int)<n then (s.length:Int) else n) then (if (s.length:Int)<n then (s.length:Int) else n) else 0)=(k:Int)∧k≤s.length∧k=(max 0 (min n s.length)).toNat:=by
 refine ⟨(max 0 (min n s.length)).toNat,?_,?_,rfl⟩<;>repeat' split
 all_goals omega
theorem AN1 (t s:Str) (n:Int) (hs:s.length≤1048576) (Hp:List AObj):AFun Tryz.prog 227 [Ac t,Ac s,A5 n] Hp (B8 (J1 t s n)):=by
 refine Ah [.cell 6 24] [0,1,2] Tryz.func227 Tryz.ntmps227 (fun d=>?_)
 refine AAm ?_;refine Z13 ?_;refine R.minI ?_;refine R.maxI ?_
 obtain ⟨k,hk,hks,hke⟩:=AGi s n
 simp only [hk]
 refine A4 ?_;refine A2 [0,1,6,7] ?_;refine Z8 ?_;refine A2 [1,6,7,14] ?_
 refine A3 (fun ht14=>?_) (fun ht14=>?_)
 ·have hm:J1 t s n=Pi (s.take k):=by unfold J1;rw [if_pos ht14,←hke]
  refine Z1 ?_
  refine A4 (h:=Iv k (fun _=>Av _) (fun _=>hks)) (hr:=?_)
  refine A7 Tryz.call215 (qi _ _) ?_;refine F1 ?_;refine A2 [6] ?_;refine Z9 ?_;exact AJi
 have hm:J1 t s n=Pi (s.drop (s.length-k)):=by unfold J1;rw [if_neg (by rw [ht14];simp),←hke]
 refine Tv ?_
 refine A4 (h:=Q.sub64 (h1:=fun _=>by omega) (h2:=fun _=>by omega)) (hr:=?_)
 refine A4 (h:=P7 (s.length-k) (fun _=>show s.length-k≤s.length by omega) (fun _=>Ap _)) (hr:=?_)
 refine A7 Tryz.call215 (qi _ _) ?_;refine F1 ?_;refine Ts ?_;exact AJi

theorem AN2 (t:Str) (v:Val) (h:Fine v) (Hp:List AObj):AFun Tryz.prog 226 [Ac t,B8 v] Hp (Nk (Fm t v)):=by
 have hlen:=h.len
 refine Ah [.cell 4 24,.tmp 5] [0,1] Tryz.func226 Tryz.ntmps226 (fun d=>?_)
 refine Z2 ?_;refine Z83 ?_;refine bm ?_;refine Z19 ?_;refine eg ?_;refine A2 [0,3,4,6] ?_
 refine A3 (fun ht6=>?_) (fun ht6=>?_)
 ·have hm:Fm t v=(Pi (Lib.itoa v.n),0):=if_pos ht6
  refine Z1 ?_;refine A7 Tryz.call151 (AK0 _ h.lo h.hi _) ?_;refine A7 Tryz.call215 (qi _ _) ?_;exact Rj
 refine eg ?_;refine A2 [0,3,4,18] ?_
 refine A3 (fun ht18=>?_) (fun ht18=>?_)
 ·have hm:Fm t v=(⟨1,v.s.length,[]⟩,0):=by unfold Fm;rw [if_neg (by rw [ht6];simp),if_pos ht18]
  refine Z13 ?_;refine A7 Tryz.call197 (AFo _ _) ?_;exact Rj
 refine eg ?_;refine A2 [3,4,30] ?_
 refine A3 (fun ht30=>?_) (fun ht30=>?_)
 ·have hm:Fm t v=Eo (Bj v.s):=by unfold Fm;rw [if_neg (by rw [ht6];simp),if_neg (by rw [ht18];simp),if_pos ht30]
  refine Z1 ?_;refine A7 Tryz.call196 (AJz v.s (by omega) _) ?_;refine AAf ?_;exact AAr
 have hm:Fm t v=Ch 10:=by unfold Fm;rw [if_neg (by rw [ht6];simp),if_neg (by rw [ht18];simp),if_neg (by rw [ht30];simp)]
 refine Z18 ?_;refine Xm ?_;exact jr

theorem AC7 {vs:List Val} (h:0<vs.length):vs.getD 0 noV=vs[0]:=by rw [D6,Aa h];rfl
/-- As many values as a node asks for. -/
structure ArgsOk (o:Int) (vs:List Val):Prop where
 two:o=5→∃a b,vs=[a,b]
 one:o=3∨o=4→vs.length=1
 call:o=6→vs.length=1∨∃a b,vs=[a,b]
 fine:∀v∈vs,Fine v
theorem AN3 (e:Expr) (vs:List Val) (h:ArgsOk e.op vs) (Hp:List AObj):AFun Tryz.prog 207 [Ae e,Fh vs] Hp (Nk (Au e.op e.text vs)):=by
 refine Ah [.cell 4 24,.tmp 5] [0,1] Tryz.func207 Tryz.ntmps207 (fun d=>?_)
 refine Z2 ?_;refine Z83 ?_;refine A2 [1,2,4] ?_;refine Z19 ?_;refine Z20 ?_;refine A2 [1,2,4,6] ?_
 refine A3 (fun ht6=>?_) (fun ht6=>?_)
 ·obtain ⟨a,b,rfl⟩:=h.two (by simpa using ht6)
  have hm:Au e.op e.text [a,b]=H0 e.text a b:=if_pos ht6
  refine Z13 ?_;refine A7 Tryz.call222 (AN0 e.text a b (h.fine a (by simp)) (h.fine b (by simp)) _) ?_;exact AAr
 refine Z20 ?_;refine B3 ?_;refine G.buildSl jU jS jZ ?_
 refine Bw Tryz.call223 (C:=((e.op==3)==true)) (fun hB=>yp vs [1] (by have:=h.one (.inl (by simpa using hB));simp [this]) (by simp) _) ?_
 refine Z0 ?_;refine A2 [1,2,4,16] ?_
 refine A3 (fun ht16=>?_) (fun ht16=>?_)
 ·have hm0:((e.op==3)&&Bl vs [1])=true:=ht16
  have hop:e.op=3:=by simp only [Al,beq_iff_eq] at hm0;exact hm0.1
  have hln:=h.one (.inl hop)
  have hg0:(vs.map B8)[0]? = some (B8 (vs.getD 0 noV)):=by rw [AC7 (by omega)];exact B7 (by omega)
  have hm:Au e.op e.text vs=Eo (Ji 0 (vs.getD 0 noV).n):=by unfold Au;rw [if_neg (by rw [ht6];simp),if_pos ht16]
  refine Z2 ?_
  refine A4 (h:=Ag (0) (B8 (vs.getD 0 noV)) (fun _=>hg0)) (hr:=?_)
  refine Z0 ?_;refine A7 Tryz.call225 (AMo _ _) ?_;refine AAf ?_;exact AAr
 refine Z20 ?_;refine B3 ?_;refine G.buildSl jU jS jZ ?_
 refine Bw Tryz.call223 (C:=((e.op==4)==true)) (fun hB=>yp vs [3] (by have:=h.one (.inr (by simpa using hB));simp [this]) (by simp) _) ?_
 refine Z0 ?_;refine A2 [1,2,4,35] ?_
 refine A3 (fun ht35=>?_) (fun ht35=>?_)
 ·have hm0:((e.op==4)&&Bl vs [3])=true:=ht35
  have hop:e.op=4:=by simp only [Al,beq_iff_eq] at hm0;exact hm0.1
  have hln:=h.one (.inr hop)
  have hg0:(vs.map B8)[0]? = some (B8 (vs.getD 0 noV)):=by rw [AC7 (by omega)];exact B7 (by omega)
  have hm:Au e.op e.text vs=(D9 ((vs.getD 0 noV).n==0),0):=by unfold Au;rw [if_neg (by rw [ht6];simp),if_neg (by rw [ht16];simp),if_pos ht35]
  refine Z2 ?_
  refine A4 (h:=Ag (0) (B8 (vs.getD 0 noV)) (fun _=>hg0)) (hr:=?_)
  refine Z11 ?_;exact AIz
 refine Z20 ?_;refine A2 [1,2,4,50] ?_
 refine A3 (fun ht50=>?_) (fun ht50=>?_)
 ·have hm:Au e.op e.text vs=Ch 10:=by unfold Au;rw [if_neg (by rw [ht6];simp),if_neg (by rw [ht16];simp),if_neg (by rw [ht35];simp),if_pos ht50]
  refine Xm ?_;exact Rj
 have hop:e.op=6:=by simpa using ht50
 have hcl:=h.call hop
 refine Z20 ?_;refine A2 [1,2,4,57] ?_
 refine A3 (fun ht57=>?_) (fun ht57=>?_)
 ·rw [B6] at ht57
  have hln:vs.length=1:=by have:=ht57;simp only [beq_iff_eq] at this;omega
  have hg0:(vs.map B8)[0]? = some (B8 (vs.getD 0 noV)):=by rw [AC7 (by omega)];exact B7 (by omega)
  have hf0:Fine (vs.getD 0 noV):=by rw [AC7 (by omega)];exact h.fine _ (Br _)
  have hm:Au e.op e.text vs=Fm e.text (vs.getD 0 noV):=by unfold Au;rw [if_neg (by rw [ht6];simp),if_neg (by rw [ht16];simp),if_neg (by rw [ht35];simp),if_neg (by rw [ht50];simp),if_pos ht57]
  refine Ct [0,1,0,4,12,31,63,63,255,511] 8 Aj (by kernel_rfl) ?_;refine Z34 ?_
  refine An (h:=Ag (0) (B8 (vs.getD 0 noV)) (fun _=>hg0)) (hr:=?_)
  refine An ?_;refine Cy Tryz.call226 (AN2 _ _ hf0 _) ?_;refine Q9 ?_;exact Rj
 rw [B6] at ht57
 obtain ⟨a,b,rfl⟩:∃a b,vs=[a,b]:=by
  rcases hcl with h1|h1
  ·exfalso
   have:=ht57
   rw [h1] at this
   simp at this
  exact h1
 refine Z2 ?_;refine bb jU jS jZ ?_;refine A7 Tryz.call223 (yp [a,b] [2,1] (by simp) (by simp) _) ?_;refine Z0 ?_;refine A2 [1,2,4,69] ?_
 refine A3 (fun ht69=>?_) (fun ht69=>?_)
 ·have hm:Au e.op e.text [a,b]=Ch 10:=by unfold Au;rw [if_neg (by rw [ht6];simp),if_neg (by rw [ht16];simp),if_neg (by rw [ht35];simp),if_neg (by rw [ht50];simp),if_neg (by rw [ht57];simp),if_pos ht69]
  refine Xm ?_;exact Rj
 have hm:Au e.op e.text [a,b]=(J1 e.text a.s b.n,0):=by unfold Au;rw [if_neg (by rw [ht6];simp),if_neg (by rw [ht16];simp),if_neg (by rw [ht35];simp),if_neg (by rw [ht50];simp),if_neg (by rw [ht57];simp),if_neg (by rw [ht69];simp)];rfl
 refine Z18 ?_;refine Ct [0,1,0,4,12,28,0,64,192,448,1023,2047,4095] 10 Aj (by kernel_rfl) ?_;refine Z34 ?_
 refine An (h:=Ag (0) (B8 a) (fun _=>show ([B8 a,B8 b]:List AV)[0]? = some (B8 a) from rfl)) (hr:=?_)
 refine Z34 ?_
 refine An (h:=Ag (1) (B8 b) (fun _=>show ([B8 a,B8 b]:List AV)[1]? = some (B8 b) from rfl)) (hr:=?_)
 refine Q9 ?_
 refine A7 Tryz.call227 (AN1 e.text a.s b.n (by have:=(h.fine a (by simp)).len;omega) _) ?_
 exact jr

theorem Oa (a b:Val):((a.kind==b.kind&&a.n==b.n)&&a.s==b.s)=(a==b):=by
 obtain ⟨k,n,s⟩:=a
 obtain ⟨k',n',s'⟩:=b
 by_cases h:(⟨k,n,s⟩:Val)=⟨k',n',s'⟩
 ·injection h with h1 h2 h3
  subst h1;subst h2;subst h3
  simp
 have:((⟨k,n,s⟩:Val)==⟨k',n',s'⟩)=false:=by simpa using h
 rw [this]
 simp only [Us,beq_eq_false_iff_ne]
 by_cases h1:k=k'
 ·by_cases h2:n=n'
  ·right
   rintro rfl
   exact h (by rw [h1,h2])
  exact .inl (.inr h2)
 exact .inl (.inl h1)
/-- What eval answers for a tree, over any heap. -/
abbrev Jk (c:List Col) (l:List Val) (e:Expr) (r:Rs):Prop:=∀Hp,AFun Tryz.prog 158 [Wv c l,Ae e] Hp (Nk r)
theorem AKj (c:List Col) (l:List Val) (x:Expr) (r:Rs) (h:Jk c l x r) (Hp:List AObj):AFun Tryz.prog 206 [Wv c l,Ae x] Hp (Nk (B0 r)):=by
 refine Ah [.cell 4 24,.tmp 5] [0,1] Tryz.func206 Tryz.ntmps206 (fun d=>?_)
 refine Z1 ?_;refine AAw ?_;refine Z1 ?_;refine A7 Tryz.call158 (h _) ?_;refine Xn ?_;refine A2 [4,6,7] ?_;refine Z32 ?_;refine Z78 ?_;refine Z90 ?_;refine A2 [4,6,7,25] ?_
 refine A3 (fun ht25=>?_) (fun ht25=>?_)
 ·have hm:B0 r=Ch 10:=if_pos ht25
  refine Xm ?_;exact pq
 have hm:B0 r=r:=if_neg (by rw [ht25];simp)
 refine Z88 ?_;exact jr

theorem AKk (c:List Col) (l:List Val) (x k0 k1:Expr) (s:Val) (ra rb:Rs) (h0:(x.kids.map Ae)[0]? = some (Ae k0)) (h1:(x.kids.map Ae)[1]? = some (Ae k1)) (ha:Jk c l k0 ra) (hb:Jk c l k1 rb) (Hp:List AObj):AFun Tryz.prog 184 [Wv c l,Ae x,B8 s] Hp (Nk (F9 s ra rb)):=by
 refine Ah [.cell 6 24,.tmp 7] [0,1,2] Tryz.func184 Tryz.ntmps184 (fun d=>?_)
 refine Z13 ?_;refine Z83 ?_;refine A2 [3,4,5,6] ?_;refine Fs [0,0,2,6,14,31,63,127,127,0,767,2047] [9,10] [.q 9 [] [],.s [8] (some 0) [] [1],.s [] (some 1) [0] []] (fun _=>Hp) (fun B=>if B 0=true then [.cells 24 [A5 0,A5 0,Ac []],(if B 1=true then .cells 24 [A5 (B0 ra).1.kind,A5 (B0 ra).1.n,Ac (B0 ra).1.s] else .cells 24 [A5 0,A5 0,Ac []]:AObj)] else [.cells 24 [A5 0,A5 0,Ac []]]) Aj (by kernel_rfl) rfl rfl (fun _=>rfl) ?_
 apply Y.q
 ·intro B hT hF
  refine Z34 ?_
  refine An (h:=Ag (0) (Ae k0) (fun _=>h0)) (hr:=?_)
  refine An ?_;exact AIo
 case hTF=>decide
 refine Z60 ?_;refine AHe ?_;refine A2 [3,4,5,6,8,9] ?_;refine Z32 ?_;refine Z6 ?_
 refine B3 (h:=Lo Rn (fun w=>Gn (B0 ra).1.kind (B0 ra).1.n s.kind s.n (B0 ra).1.s s.s w)) (hr:=?_)
 refine A4 ?_;refine A2 [3,4,5,6,8,9,26] ?_
 refine A3 (fun ht26=>?_) (fun ht26=>?_)
 ·rw [Oa] at ht26
  have hm:F9 s ra rb=B0 ra:=if_pos ht26
  refine Z1 ?_;refine Z21 ?_;exact Z44
 rw [Oa] at ht26
 refine Z3 ?_;refine Fs [0,0,2,6,14,31,63,127,127,0,767,2047] [9,10] [.q 9 [] [],.s [10] (some 0) [] [1],.s [] (some 1) [0] []] (fun _=>Hp) (fun B=>if B 0=true then [.cells 24 [A5 0,A5 0,Ac []],.cells 24 [A5 (B0 ra).1.kind,A5 (B0 ra).1.n,Ac (B0 ra).1.s],(if B 1=true then .cells 24 [A5 (B0 rb).1.kind,A5 (B0 rb).1.n,Ac (B0 rb).1.s] else .cells 24 [A5 0,A5 0,Ac []]:AObj)] else [.cells 24 [A5 0,A5 0,Ac []],.cells 24 [A5 (B0 ra).1.kind,A5 (B0 ra).1.n,Ac (B0 ra).1.s]]) Aj (by kernel_rfl) rfl rfl (fun _=>rfl) ?_
 apply Y.q
 ·intro B hT hF
  refine Z34 ?_
  refine An (h:=Ag (1) (Ae k1) (fun _=>h1)) (hr:=?_)
  refine An ?_;refine Cy Tryz.call206 (AKj c l k1 rb hb _) ?_;exact AF0
 case hTF=>decide
 refine Y.alloc (zs:=[A5 0,A5 0,Ac []]) (n:=2) (u:=Hp.length) Tryz.zeroValue24 (fun B hT hF hB=>⟨rfl,by simp [hB],by simp [upd,hB,hF 1 (by simp)],rfl⟩) ?_;refine Y.storeOwnT (u:=Hp.length) (n:=2) (t':=24) (cs:=[A5 0,A5 0,Ac []]) (cs':=[A5 (B0 rb).1.kind,A5 (B0 rb).1.n,Ac (B0 rb).1.s]) Tryz.sizeOf24 (fun B hT hF hB=>⟨rfl,by simp [hT 0 (by simp),hB],by simp [upd,hT 0 (by simp),hB],rfl⟩) ?_;refine F7 (tn:=[9,10]) (O:=[.cells 24 [A5 0,A5 0,Ac []],.cells 24 [A5 (B0 ra).1.kind,A5 (B0 ra).1.n,Ac (B0 ra).1.s],.cells 24 [A5 (B0 rb).1.kind,A5 (B0 rb).1.n,Ac (B0 rb).1.s]]) ?_;refine A4 ?_;refine A2 [5,6,8,9,10] ?_;refine Z32 ?_;refine Z6 ?_
 refine B3 (h:=Lo Rn (fun w=>Gn (B0 rb).1.kind (B0 rb).1.n s.kind s.n (B0 rb).1.s s.s w)) (hr:=?_)
 refine Z0 ?_;refine Z90 ?_;refine A2 [6,8,9,10,49] ?_
 refine A3 (fun ht49=>?_) (fun ht49=>?_)
 ·rw [Oa] at ht49
  have hm:F9 s ra rb=B0 rb:=by unfold F9;rw [if_neg (by rw [ht26];simp),if_pos ht49]
  refine Z1 ?_;refine Z21 ?_;exact Z44
 rw [Oa] at ht49
 have hm:F9 s ra rb=((B0 ra).1,0):=by unfold F9;rw [if_neg (by rw [ht26];simp),if_neg (by rw [ht49];simp)]
 refine Z93 ?_;refine Z21 ?_;exact AHv

theorem AN4 (c:List Col) (l:List Val) (x k0 k1 k2:Expr) (ra rb d2:Rs) (h0:(x.kids.map Ae)[0]? = some (Ae k0)) (h1:(x.text==Bt)=false→(x.kids.map Ae)[1]? = some (Ae k1)) (h2:(x.text==ifW)=true→(x.kids.map Ae)[2]? = some (Ae k2)) (ha:Jk c l k0 ra) (hb:(x.text==Bt)=false→Jk c l k1 rb) (hd:(x.text==ifW)=true→Jk c l k2 d2) (Hp:List AObj):AFun Tryz.prog 185 [Wv c l,Ae x] Hp (Nk (Di x.text ra rb d2)):=by
 refine Ah [.cell 4 24,.tmp 5] [0,1] Tryz.func185 Tryz.ntmps185 (fun d=>?_)
 refine Z1 ?_;refine AAw ?_;refine Z32 ?_;refine A2 [2,3,4,12] ?_
 refine A3 (fun ht12=>?_) (fun ht12=>?_)
 ·have hni:(x.text==Bt)=false:=by
   have e:x.text=ifW:=by simpa [ifW] using ht12
   rw [e];rfl
  have hc:Di x.text ra rb d2=(if (B0 ra).2 != 0 then Ch (B0 ra).2 else if (B0 ra).1==D9 true then rb else d2):=if_pos ht12
  refine Fs [0,0,2,6,14,31,63,127,127,0,767,2047] [9,10] [.q 9 [] [],.s [6] (some 0) [] [1],.s [] (some 1) [0] []] (fun _=>Hp) (fun B=>if B 0=true then [.cells 24 [A5 0,A5 0,Ac []],(if B 1=true then .cells 24 [A5 (B0 ra).1.kind,A5 (B0 ra).1.n,Ac (B0 ra).1.s] else .cells 24 [A5 0,A5 0,Ac []]:AObj)] else [.cells 24 [A5 0,A5 0,Ac []]]) Aj (by kernel_rfl) rfl rfl (fun _=>rfl) ?_
  apply Y.q
  ·intro B hT hF
   refine Z34 ?_
   refine An (h:=Ag (0) (Ae k0) (fun _=>h0)) (hr:=?_)
   refine An ?_;exact AIo
  case hTF=>decide
  refine Z60 ?_;refine AHe ?_;refine A2 [2,3,4,6,7] ?_;refine Z19 ?_;refine Z13 ?_;refine A2 [2,3,4,6,7,22] ?_
  refine A3 (fun ht22=>?_) (fun ht22=>?_)
  ·have hm:Di x.text ra rb d2=Ch (B0 ra).2:=by rw [hc,if_pos ht22]
   refine Z2 ?_;refine Z49 ?_;refine Z7 ?_;refine Ve ?_;exact AEk
  refine Ct [0,0,3,7] 2 Aj (by kernel_rfl) ?_;refine An ?_;refine Cy Tryz.call122 (eu true _) ?_;refine Ee ?_
  refine A4 (h:=Lo Rn (fun w=>Gn (B0 ra).1.kind (B0 ra).1.n 3 1 (B0 ra).1.s [] w)) (hr:=?_)
  refine A4 ?_;refine A2 [2,3,4,29] ?_
  refine A3 (fun ht29=>?_) (fun ht29=>?_)
  ·rw [Oa (B0 ra).1 ⟨3,1,[]⟩] at ht29
   have ht29b:((B0 ra).1==D9 true)=true:=ht29
   have hm:Di x.text ra rb d2=rb:=by rw [hc,if_neg (by rw [ht22];simp),if_pos ht29b]
   refine AEo ?_
   refine An (h:=Ag (1) (Ae k1) (fun _=>h1 hni)) (hr:=?_)
   refine An ?_;refine Cy Tryz.call158 (hb hni _) ?_;refine Q9 ?_;refine Z7 ?_;refine Ve ?_;exact AEk
  rw [Oa (B0 ra).1 ⟨3,1,[]⟩] at ht29
  have hm:Di x.text ra rb d2=d2:=by rw [hc,if_neg (by rw [ht22];simp),if_neg (by show ¬((B0 ra).1==⟨3,1,[]⟩)=true;rw [ht29];simp)]
  refine Z18 ?_;refine AEo ?_
  refine An (h:=Ag (2) (Ae k2) (fun _=>h2 ht12)) (hr:=?_)
  refine An ?_;refine Cy Tryz.call158 (hd ht12 _) ?_;refine Q9 ?_;exact pq
 have hc:Di x.text ra rb d2=(if ra.2 != 0 then Ch ra.2 else if x.text==Bt then (D9 (ra.1.kind==0),0) else if ra.1.kind != 0 then (ra.1,0) else rb):=if_neg (by show ¬(x.text==ifW)=true;rw [show (x.text==ifW)=false from ht12];simp)
 refine Z3 ?_;refine Fs [0,0,2,6,14,31,63,127,127,0,767,2047] [9,10] [.q 9 [] [],.s [8] (some 0) [] [1],.s [] (some 1) [0] []] (fun _=>Hp) (fun B=>if B 0=true then [.cells 24 [A5 0,A5 0,Ac []],(if B 1=true then .cells 24 [A5 ra.1.kind,A5 ra.1.n,Ac ra.1.s] else .cells 24 [A5 0,A5 0,Ac []]:AObj)] else [.cells 24 [A5 0,A5 0,Ac []]]) Aj (by kernel_rfl) rfl rfl (fun _=>rfl) ?_
 apply Y.q
 ·intro B hT hF
  refine Z34 ?_
  refine An (h:=Ag (0) (Ae k0) (fun _=>h0)) (hr:=?_)
  refine An ?_;refine Cy Tryz.call158 (ha _) ?_;exact AF0
 case hTF=>decide
 refine AJj ?_;refine Y.storeOwnT (u:=Hp.length) (n:=1) (t':=24) (cs:=[A5 0,A5 0,Ac []]) (cs':=[A5 ra.1.kind,A5 ra.1.n,Ac ra.1.s]) Tryz.sizeOf24 (fun B hT hF hB=>⟨rfl,by simp [hT 0 (by simp),hB],by simp [upd,hT 0 (by simp),hB],rfl⟩) ?_;refine F7 (tn:=[9,10]) (O:=[.cells 24 [A5 0,A5 0,Ac []],.cells 24 [A5 ra.1.kind,A5 ra.1.n,Ac ra.1.s]]) ?_;refine A4 ?_;refine A2 [2,3,4,8,9] ?_;refine Z19 ?_;refine Z13 ?_;refine A2 [2,3,4,8,9,58] ?_
 refine A3 (fun ht58=>?_) (fun ht58=>?_)
 ·have hm:Di x.text ra rb d2=Ch ra.2:=by rw [hc,if_pos ht58]
  refine Z2 ?_;refine Z49 ?_;exact Rj
 refine Z20 ?_;refine A2 [2,3,4,8,65] ?_
 refine A3 (fun ht65=>?_) (fun ht65=>?_)
 ·have hm:Di x.text ra rb d2=(D9 (ra.1.kind==0),0):=by rw [hc,if_neg (by rw [ht58];simp),if_pos (show (x.text==Bt)=true from ht65)]
  refine Z13 ?_;exact AIz
 refine Z20 ?_;refine A2 [2,3,4,8,73] ?_
 refine A3 (fun ht73=>?_) (fun ht73=>?_)
 ·have hm:Di x.text ra rb d2=(ra.1,0):=by rw [hc,if_neg (by rw [ht58];simp),if_neg (by show ¬(x.text==Bt)=true;rw [show (x.text==Bt)=false from ht65];simp),if_pos ht73]
  refine Z2 ?_;exact Rj
 have hm:Di x.text ra rb d2=rb:=by rw [hc,if_neg (by rw [ht58];simp),if_neg (by show ¬(x.text==Bt)=true;rw [show (x.text==Bt)=false from ht65];simp),if_neg (by rw [ht73];simp)]
 refine Z18 ?_;refine AEo ?_
 refine An (h:=Ag (1) (Ae k1) (fun _=>h1 ht65)) (hr:=?_)
 refine An ?_;refine Cy Tryz.call158 (hb ht65 _) ?_;refine Q9 ?_;exact jr

/-- The first fault of those that were asked. -/
structure AllAt (f:Expr→Rs) (k:List Expr) (x:Nat):Prop where
 le:x≤k.length
 ok:∀(j:Nat) (y:Expr),j<x→k[j]? = some y→((f y).2 != 0)=false
theorem AllAt.bad {f:Expr→Rs} {k:List Expr} {x:Nat} (h:AllAt f k x) (hx:x<k.length) (hb:((f k[x]).2 != 0)=true) (g:List Val→Rs):Gq g (k.map f)=Ch (f k[x]).2:=by
 unfold Gq
 have:(k.map f).find? (fun q=>q.2 != 0)=some ((k.map f)[x]'(by simpa using hx)):=bp (by simpa using hx) (by simpa using hb) (fun j y hj hy=>by
  rw [C8,Dw] at hy
  obtain ⟨z,hz,rfl⟩:=hy
  exact h.ok j z hj hz)
 rw [this]
 simp
theorem AllAt.all {f:Expr→Rs} {k:List Expr} {x:Nat} (h:AllAt f k x) (hx:k.length≤x) (g:List Val→Rs):Gq g (k.map f)=if (k.take x).any (fun y=>(f y).1.kind==0) then (noV,0) else g ((k.take x).map fun y=>(f y).1):=by
 unfold Gq
 have:(k.map f).find? (fun q=>q.2 != 0)=none:=Rq (fun j y hy=>by
  rw [C8,Dw] at hy
  obtain ⟨z,hz,rfl⟩:=hy
  exact h.ok j z (by have:=(Ad.1 hz).1;omega) hz)
 rw [this,De hx]
 simp only [List.any_map,Gj]
 rfl
theorem AllAt.next {f:Expr→Rs} {k:List Expr} {x:Nat} (h:AllAt f k x) (hx:x<k.length) (hb:((f k[x]).2 != 0)=false):AllAt f k (x+1):=⟨hx,Dn hx h.ok hb⟩
theorem yt (f:Expr→Bool) (k:List Expr) {x:Nat} (h:x<k.length):(k.take (x+1)).any f=((k.take x).any f || f k[x]):=by rw [Fw h,List.any_append];simp
theorem rz (f:Expr→Val) (l:List Expr) {x:Nat} (h:x<l.length):((l.take x).map f).map B8++[B8 (f l[x])]=((l.take (x+1)).map f).map B8:=by rw [Fw h,Cs,Cs];rfl
theorem ia {n k:Nat} {own:Bool} {l:List Val}:Low n (.slice own k (l.map B8)):=low_slice.2 fun y hy=>by
 obtain ⟨z,_,rfl⟩:=Du.1 hy
 simp [or_imp,forall_and]
theorem AN5 (c:List Col) (l:List Val) (e:Expr) (hk:e.kids.length≤1048576) (hev:∀y∈e.kids,Jk c l y (Ab c l y)) (hargs:((∀y∈e.kids,(Ab c l y).2=0)→ArgsOk e.op (e.kids.map fun y=>(Ab c l y).1))) (Hp:List AObj):AFun Tryz.prog 186 [Wv c l,Ae e] Hp (Nk (Gq (Au e.op e.text) (e.kids.map (Ab c l)))):=by
 refine Ah [.cell 4 24,.tmp 5] [0,1] Tryz.func186 Tryz.ntmps186 (fun d=>?_)
 refine Z1 ?_;refine AAw ?_;refine Z2 ?_;refine A2 [2,3,4,6] ?_;refine Eg ?_;refine R.nilSl 6 3 ?_;refine A4 ?_;refine A2 [2,3,4,6,7] ?_;refine Z48 ?_;refine A2 [2,3,4,6,7,13,14,15] ?_
 refine Bh (α:=Nat) (fun x=>⟨49,A9 2 (.ro [Ce c,Fh l]) (A9 3 (.ro (Ey e)) (A9 4 (.ptr (oid Hp.length 0) 0) (A9 6 (.slice true 3 (((e.kids.take x).map fun y=>(Ab c l y).1).map B8)) (A9 7 (At ((e.kids.take x).any fun y=>(Ab c l y).1.kind==0)) (A9 13 (.slice false 6 (e.kids.map Ae)) (A9 14 (A5 (e.kids.length:Nat)) (A9 15 (A5 (x:Nat)) (fun _=>.any)))))))),Hp,[.cells 24 [A5 0,A5 0,Ac []]],[],none⟩) (fun x=>AllAt (Ab c l) e.kids x) (fun x=>e.kids.length-x) (0) ⟨Av _,fun j y h=>by omega⟩ (Bc (by simp)) rfl (fun x hx=>?_)
 refine Z2 ?_;refine A2 [2,3,4,6,7,13,14,15,16] ?_
 refine Gz (fun ht16=>?_) (fun ht16=>?_)
 ·have hlt:x<e.kids.length:=by simpa using ht16
  refine jq ?_
  refine A4 (h:=Ag (x) (Ae e.kids[x]) (fun _=>B7 hlt)) (hr:=?_)
  refine ju ?_;refine A2 [2,3,4,6,7,9,13,14,15] ?_;refine Z1 ?_;refine A7 Tryz.call158 (hev _ (Br hlt) _) ?_;refine Xn ?_;refine A2 [2,3,4,6,7,10,11,13,14,15] ?_;refine Z8 ?_;refine A2 [2,3,4,6,7,10,11,13,14,15,26] ?_
  refine A3 (fun ht26=>?_) (fun ht26=>?_)
  ·have hm:=hx.bad hlt ht26 (Au e.op e.text)
   refine Z2 ?_;refine Z49 ?_;refine Z7 ?_;refine Z68 ?_;refine Z47 ?_;exact k8
  refine Z88 ?_;refine Z78 ?_;refine A2 [2,3,4,6,7,10,13,14,15] ?_;refine Hs ?_;refine vz ?_
  refine Ix jU Tryz.type24 ?_ ?_ ?_
  ·simp only [B6,Ei,Aw,Bb,Tryz.t24];omega
  ·simp only [B6,Ei,Aw,Bb,Tryz.t24];omega
  refine Iy ?_;refine A2 [2,3,4,6,7,13,14,15] ?_;refine jv ?_;refine A2 [2,3,4,6,7,13,14,15] ?_;refine B5 (x+1) (hx.next hlt ht26) (by omega) ?_
  simp only [show Tryz.t24.size=3 from rfl,yt _ _ hlt]
  have hvs:((e.kids.take x).map fun y=>(Ab c l y).1).map B8++[.agg [.v (.int .i64 (Ab c l e.kids[x]).1.kind),.v (.int .i64 (Ab c l e.kids[x]).1.n),.v (sv (Ab c l e.kids[x]).1.s)]]=((e.kids.take (x+1)).map fun y=>(Ab c l y).1).map B8:=rz _ _ hlt
  simp only [hvs]
  exact E5 (own:=[.cells 24 [A5 0,A5 0,Ac []]]) (fun _=>.refl _) (by repeat (first|exact C5|refine C4 (by first|exact Eq|exact ia|exact Un|(simp [or_imp,forall_and,oid]<;>omega)) ?_)) (by intro y hy;rw [Ck.1 hy];intro z hz;simp only [By,Fv,or_false] at hz;rcases hz with rfl|rfl|rfl<;>simp) (by simp)
 have hxe:e.kids.length≤x:=by simpa using ht16
 have ha:=hx.all hxe (Au e.op e.text)
 have htk:e.kids.take x=e.kids:=De hxe
 have h00:∀y∈e.kids,(Ab c l y).2=0:=fun y hy=>by
  obtain ⟨j,hj⟩:=Cg hy
  have:=hx.ok j y (by have:=(Ad.1 hj).1;omega) hj
  simpa using this
 have hao:=hargs h00
 rw [←htk] at hao
 refine Z31 ?_;refine Z23 ?_;refine A2 [3,4,6,42] ?_
 refine A3 (fun ht42=>?_) (fun ht42=>?_)
 ·have hm:Gq (Au e.op e.text) (e.kids.map (Ab c l))=(noV,0):=by rw [ha,if_pos ht42]
  refine AF6 ?_;exact pq
 have hm:Gq (Au e.op e.text) (e.kids.map (Ab c l))=Au e.op e.text ((e.kids.take x).map fun y=>(Ab c l y).1):=by rw [ha,if_neg (by rw [ht42];simp)]
 refine Z88 ?_;refine A7 Tryz.call207 (AN3 e _ hao _) ?_;refine Z0 ?_;exact jr

theorem Sf {e:Expr} (h:Cu e=true):(e.op=5→e.kids.length=2)∧(e.op=3∨e.op=4→e.kids.length=1)∧(e.op=6→Bv e.text=(e.kids.length:Int))∧(e.op=1∨e.op=2∨e.op=3∨e.op=4∨e.op=5∨e.op=6):=by
 cases Hf h with
 | val v hp h0=>simp [K5,Expr.op]
 | name t ht=>simp [F8,Expr.op]
 | neg a=>simp [Fy,Expr.op,Expr.kids]
 | no a=>simp [Fy,Expr.op,Expr.kids]
 | bin t a b ht=>simp [Hn,Expr.op,Expr.kids]
 | call t k ht=>simpa [Expr.op,Expr.kids,Expr.text] using ht
theorem H4 {k:List Expr} {i:Nat} (h:i<k.length):(k.map Ae)[i]? = some (Ae (k.getD i Am))∧k.getD i Am∈k∧∀(f:Expr→Rs) (d:Rs),(k.map f).getD i d=f (k.getD i Am):=by
 have e:k.getD i Am=k[i]:=by rw [D6,Aa h];rfl
 rw [e]
 refine ⟨by simp [h],Br h,fun f d=>?_⟩
 rw [D6,C8,Aa h]
 rfl
theorem cm {c:List Col} {l:List Val} {e:Expr} (h1:(e.op==1)=false) (h2:(e.op==2)=false) (h3:((e.op==5)&&(e.text==orW))=false) (h4:((e.op==5)&&(e.text==Oj))=false) (h5:((e.op==6)&&(((e.text==ifW) || (e.text==Md)) || (e.text==Bt)))=false):Ab c l e=Gq (Au e.op e.text) (e.kids.map (Ab c l)):=by
 rw [Ab,Ql]
 unfold I0
 rw [h1,h2,h3,h4,h5]
 rfl
theorem AC8 {c:List Col} {l:List Val} (hf:∀v∈l,Fine v) {e:Expr} (hnd:Dk Cu e=true) (hrg:Dk Hy e=true) (hv:Dk L9 e=true) (h5:((e.op==6)&&(((e.text==ifW) || (e.text==Md)) || (e.text==Bt)))=false):ArgsOk e.op (e.kids.map fun y=>(Ab c l y).1):=by
 rw [Ff,Al] at hnd hrg hv
 obtain ⟨k5,k34,k6,_⟩:=Sf hnd.1
 refine ⟨fun h=>?_,fun h=>by rw [B6];exact k34 h,fun h=>?_,fun v hv'=>?_⟩
 ·obtain ⟨a,b,e⟩:=O8 (k5 h)
  rw [e]
  exact ⟨_,_,rfl⟩
 ·rw [B6]
  rw [h] at h5
  simp only [beq_self_eq_true,Cw,Cv,beq_eq_false_iff_ne] at h5
  rcases Gg (k6 h) with ⟨_,h⟩|⟨_,h⟩|⟨_,h⟩|⟨e,_⟩|⟨e,_⟩|⟨_,h⟩|⟨_,h⟩|⟨e,_⟩
  ·exact .inl h
  ·exact .inl h
  ·exact .inl h
  ·exact absurd e h5.2
  ·exact absurd e h5.1.2
  ·obtain ⟨a,b,e⟩:=O8 h
   rw [e]
   exact .inr ⟨_,_,rfl⟩
  ·obtain ⟨a,b,e⟩:=O8 h
   rw [e]
   exact .inr ⟨_,_,rfl⟩
  exact absurd e h5.1.1
 obtain ⟨y,hy,rfl⟩:=Du.1 hv'
 exact O6 hf y ((D3 _ _).1 hv.2 y hy) ((D3 _ _).1 hrg.2 y hy)
theorem Td (a b d:Rs):Di Bt a b d=Di Bt a (noV,0) (noV,0):=by
 unfold Di
 rw [show (Bt==ifW)=false from rfl,show (Bt==Bt)=true from rfl]
 rfl
theorem ln {t:Str} (h:(t==ifW)=false) (a b d d':Rs):Di t a b d=Di t a b d':=by
 unfold Di
 rw [h]
 rfl
theorem ib {t:Str} (h:(t==Bt)=true) (a b b' d d':Rs):Di t a b d=Di t a b' d':=by
 have e:t=Bt:=by simpa using h
 subst e
 rw [Td,Td a b' d']
theorem s0 {t:Str} {k:List Expr} {f:Expr→Rs} {a:Rs} (h1:(t==Bt)=false→1<k.length) (h2:(t==ifW)=true→2<k.length):Di t a ((k.map f).getD 1 (noV,0)) ((k.map f).getD 2 (noV,0))=Di t a (f (k.getD 1 Am)) (f (k.getD 2 Am)):=by
 cases hn:t==Bt with
 | true=>exact ib hn _ _ _ _ _
 | false =>
  rw [(H4 (h1 hn)).2.2]
  cases hi:t==ifW with
  | true=>rw [(H4 (h2 hi)).2.2]
  | false=>exact ln hi _ _ _ _
theorem AN6 (c:List Col) (l:List Val) (hc:OkCols c) (hl:l.length=c.length) (hf:∀v∈l,Fine v):∀(n:Nat) (e:Expr),okE n e→Dk Cu e=true→Dk Hy e=true→Dk L9 e=true→Jk c l e (Ab c l e):=by
 intro n
 induction n with
 | zero=>exact fun e h=>h.elim
 | succ n ih =>
 intro e hok hnd hrg hvo Hp
 have hnd0:=hnd
 have hrg0:=hrg
 have hvo0:=hvo
 rw [Ff,Al] at hnd0 hrg0 hvo0
 have hev:∀y∈e.kids,Jk c l y (Ab c l y):=fun y hy=>ih y (hok.2.2 y hy) ((D3 _ _).1 hnd0.2 y hy) ((D3 _ _).1 hrg0.2 y hy) ((D3 _ _).1 hvo0.2 y hy)
 obtain ⟨k5,k34,k6,_⟩:=Sf hnd0.1
 have hev0:Ab c l e=I0 Au c l e.op e.text e.val (e.kids.map (Ab c l)):=Ql _ _ _ _
 refine Ah [.cell 4 24,.tmp 5] [0,1] Tryz.func158 Tryz.ntmps158 (fun d=>?_)
 refine Z1 ?_;refine AAw ?_;refine Z19 ?_;refine Z20 ?_;refine A2 [2,3,4,7] ?_
 refine A3 (fun ht7=>?_) (fun ht7=>?_)
 ·have hm:Ab c l e=(e.val,0):=by rw [hev0];unfold I0;rw [if_pos ht7]
  refine Z1 ?_;exact Rj
 refine Z20 ?_;refine A2 [2,3,4,13] ?_
 refine A3 (fun ht13=>?_) (fun ht13=>?_)
 ·have hm0:Ab c l e=P1 c l e.text:=by rw [hev0];unfold I0;rw [if_neg (by rw [ht7];simp),if_pos ht13]
  refine Z20 ?_;refine A7 Tryz.call29 (c29 c hc e.text _) ?_;refine A4 ?_;refine A2 [2,4,6] ?_;refine Z8 ?_;refine A2 [2,4,6,23] ?_
  refine A3 (fun ht23=>?_) (fun ht23=>?_)
  ·have hm:Ab c l e=Ch 9:=by rw [hm0];exact if_pos (by simpa using ht23)
   refine Xm ?_;refine Z7 ?_;refine Z68 ?_;exact Z15
  have hneg:¬(Co e.text c<0):=by simpa using ht23
  obtain ⟨j,hj,hjc⟩:=Ni hneg
  have hjl:j<l.length:=by omega
  have hm:Ab c l e=(l[j],0):=by
   rw [hm0]
   unfold P1
   rw [if_neg hneg,hj,Int.toNat_natCast,D6,Aa hjl]
   rfl
  rw [hj]
  refine Oh ?_
  refine A4 (h:=Ag (j) (B8 l[j]) (fun _=>B7 hjl)) (hr:=?_)
  refine A4 ?_;exact Rj
 refine Z20 ?_;refine Z78 ?_;refine A2 [2,3,4,32] ?_
 refine A3 (fun ht32=>?_) (fun ht32=>?_)
 ·have h32:((e.op==5)&&(e.text==orW))=true:=ht32
  have hop:e.op=5:=by simp only [Al,beq_iff_eq] at h32;exact h32.1
  have hkl:=k5 hop
  have hm:Ab c l e=F9 (D9 true) (Ab c l (e.kids.getD 0 Am)) (Ab c l (e.kids.getD 1 Am)):=by rw [hev0];unfold I0;rw [if_neg (by rw [ht7];simp),if_neg (by rw [ht13];simp),if_pos h32,(H4 (by omega)).2.2,(H4 (by omega)).2.2]
  refine AJ0 ?_;refine Cy Tryz.call122 (eu _ _) ?_;refine Cy Tryz.call184 (AKk c l e (e.kids.getD 0 Am) (e.kids.getD 1 Am) (D9 true) _ _ (H4 (by omega)).1 (H4 (by omega)).1 (hev _ (H4 (by omega)).2.1) (hev _ (H4 (by omega)).2.1) _) ?_;refine Q9 ?_;exact Rj
 have h32:((e.op==5)&&(e.text==orW))=false:=ht32
 refine Z20 ?_;refine Z78 ?_;refine A2 [2,3,4,47] ?_
 refine A3 (fun ht47=>?_) (fun ht47=>?_)
 ·have h47:((e.op==5)&&(e.text==Oj))=true:=ht47
  have hop:e.op=5:=by simp only [Al,beq_iff_eq] at h47;exact h47.1
  have hkl:=k5 hop
  have hm:Ab c l e=F9 (D9 false) (Ab c l (e.kids.getD 0 Am)) (Ab c l (e.kids.getD 1 Am)):=by rw [hev0];unfold I0;rw [if_neg (by rw [ht7];simp),if_neg (by rw [ht13];simp),if_neg (by rw [h32];simp),if_pos h47,(H4 (by omega)).2.2,(H4 (by omega)).2.2]
  refine AJ0 ?_;refine Cy Tryz.call122 (eu _ _) ?_;refine Cy Tryz.call184 (AKk c l e (e.kids.getD 0 Am) (e.kids.getD 1 Am) (D9 false) _ _ (H4 (by omega)).1 (H4 (by omega)).1 (hev _ (H4 (by omega)).2.1) (hev _ (H4 (by omega)).2.1) _) ?_;refine Q9 ?_;exact Rj
 have h47:((e.op==5)&&(e.text==Oj))=false:=ht47
 refine pz ?_;refine Q8 ?_;refine Z6 ?_;refine Z78 ?_;refine A2 [2,3,4,62] ?_
 refine A3 (fun ht62=>?_) (fun ht62=>?_)
 ·have h62:((e.op==6)&&(((e.text==ifW) || (e.text==Md)) || (e.text==Bt)))=true:=ht62
  obtain ⟨hkl,hl1,hl2⟩:0<e.kids.length∧((e.text==Bt)=false→1<e.kids.length)∧((e.text==ifW)=true→2<e.kids.length):=by
   have h:=h62
   simp only [Al,C7,beq_iff_eq] at h
   have ha:=k6 h.1
   rcases h.2 with (h1|h1)|h1
   ·rw [h1] at ha ⊢
    have:e.kids.length=3:=by
     have:Bv ifW=3:=by kernel_rfl
     omega
    exact ⟨by omega,fun _=>by omega,fun _=>by omega⟩
   ·rw [h1] at ha ⊢
    have:e.kids.length=2:=by
     have:Bv Md=2:=by kernel_rfl
     omega
    exact ⟨by omega,fun _=>by omega,fun h=>absurd h (by decide)⟩
   rw [h1] at ha ⊢
   have:e.kids.length=1:=by
    have:Bv Bt=1:=by kernel_rfl
    omega
   exact ⟨by omega,fun h=>absurd h (by decide),fun h=>absurd h (by decide)⟩
  have hm:Ab c l e=Di e.text (Ab c l (e.kids.getD 0 Am)) (Ab c l (e.kids.getD 1 Am)) (Ab c l (e.kids.getD 2 Am)):=by
   rw [hev0]
   unfold I0
   rw [if_neg (by rw [ht7];simp),if_neg (by rw [ht13];simp),if_neg (by rw [h32];simp),if_neg (by rw [h47];simp),if_pos h62,(H4 hkl).2.2]
   exact s0 hl1 hl2
  refine Z1 ?_;refine A7 Tryz.call185 (AN4 c l e (e.kids.getD 0 Am) (e.kids.getD 1 Am) (e.kids.getD 2 Am) _ _ _ (H4 (by omega)).1 (fun h=>(H4 (hl1 h)).1) (fun h=>(H4 (hl2 h)).1) (hev _ (H4 (by omega)).2.1) (fun h=>hev _ (H4 (hl1 h)).2.1) (fun h=>hev _ (H4 (hl2 h)).2.1) _) ?_;exact AAr
 have h62:((e.op==6)&&(((e.text==ifW) || (e.text==Md)) || (e.text==Bt)))=false:=ht62
 have hm:=cm (c:=c) (l:=l) ht7 ht13 h32 h47 h62
 refine bi ?_;refine A7 Tryz.call186 (AN5 c l e hok.2.1 hev (fun _=>AC8 hf hnd hrg hvo h62) _) ?_;refine Z0 ?_;exact jr

def Nl (l:List Val):Bool:=decide ((50:Int)<(l.length:Int)) || l.any fun v=>decide ((400:Int)<(v.s.length:Int))
theorem c18 (l:List Val) (Hp:List AObj):AFun Tryz.prog 18 [Fh l] Hp (At (Nl l)):=by
 refine Ah [.tmp 2] [0] Tryz.func18 Tryz.ntmps18 (fun d=>?_)
 refine Z58 ?_;refine Z32 ?_;refine A2 [0,6] ?_
 refine A3 (fun ht6=>?_) (fun ht6=>?_)
 ·rw [B6] at ht6
  have hm:Nl l=true:=by unfold Nl;rw [ht6];rfl
  exact AIp
 rw [B6] at ht6
 have hl50:l.length≤50:=by simp at ht6;omega
 refine Kq ?_;refine Kr ?_
 refine Bh (α:=Nat) (fun x=>⟨20,A9 0 (Fh l) (A9 3 (A5 (x:Nat)) (fun _=>.any)),Hp,[],[],none⟩) (fun x=>x≤l.length∧∀(j:Nat) (v:Val),j<x→l[j]? = some v→decide ((400:Int)<(v.s.length:Int))=false) (fun x=>l.length-x) (0) ⟨Av _,fun j v h=>by omega⟩ (Bc (by simp)) rfl (fun x hx=>?_)
 refine Z48 ?_;refine A2 [0,3,10] ?_
 refine A3 (fun ht10=>?_) (fun ht10=>?_)
 ·have hlt:x<l.length:=by simpa using ht10
  refine Xo ?_
  refine A4 (h:=Ag (x) (B8 l[x]) (fun _=>B7 hlt)) (hr:=?_)
  refine Z61 ?_;refine A2 [0,3,19] ?_
  refine A3 (fun ht19=>?_) (fun ht19=>?_)
  ·have hm:Nl l=true:=by unfold Nl;rw [C7];exact .inr (Gw.2 ⟨l[x],Br hlt,ht19⟩)
   refine Z24 ?_;exact Z67
  refine Z18 ?_;refine Z43 ?_
  refine A4 (h:=Q.add64 (h1:=fun _=>by omega) (h2:=fun _=>by omega)) (hr:=?_)
  refine A4 ?_;refine Kr ?_;refine B5 (x+1) ⟨hlt,Dn hlt hx.2 ht19⟩ (by omega) ?_;exact Bx (by simp)
 have hxe:l.length≤x:=by simpa using ht10
 have hm:Nl l=false:=by
  unfold Nl
  rw [ht6,Dd,Li]
  intro v hv
  obtain ⟨j,hj⟩:=Cg hv
  have:=hx.2 j v (by have:=(Ad.1 hj).1;omega) hj
  rw [this]
  simp
 exact AIr

structure RowAt (c:List Col) (l:List Val) (x:Nat):Prop where
 le:x≤l.length
 ok:∀(i:Nat) (v:Val) (y:Col),i<x→l[i]? = some v→c[i]? = some y→Bu v=true∧(v.kind=0∨v.kind=y.kind)
theorem RowAt.next {c:List Col} {l:List Val} {x:Nat} (h:RowAt c l x) (hl:x<l.length) (hc:x<c.length) (hb:((!(Bu l[x])) || ((l[x].kind != 0)&&(l[x].kind != c[x].kind)))=false):RowAt c l (x+1):=⟨hl,fun i v y hi hv hy=>by
 rcases Bf i x with h'|h'
 ·exact h.ok i v y h' hv hy
 have e:i=x:=by omega
 subst e
 rw [Aa hl] at hv
 rw [Aa hc] at hy
 injection hv with hv
 injection hy with hy
 subst hv
 subst hy
 simp only [Cv,Jt,Us,bne_eq_false_iff_eq] at hb
 exact ⟨hb.1,hb.2⟩⟩
theorem RowAt.bad {c:List Col} {l:List Val} {x:Nat} (hl:x<l.length) (hc:x<c.length) (hb:((!(Bu l[x])) || ((l[x].kind != 0)&&(l[x].kind != c[x].kind)))=true):Fb c l=false:=by
 cases h:Fb c l with
 | false=>rfl
 | true =>
  obtain ⟨h1,h2⟩:=(row_iff.1 h).2.2 x l[x] c[x] (Aa hl) (Aa hc)
  rw [h1] at hb
  simp only [Bn,Dd,Al,bne_iff_ne] at hb
  omega
theorem c82 (c:List Col) (hc:OkCols c) (l:List Val) (hll:l.length≤1048576) (Hp:List AObj):AFun Tryz.prog 82 [Ce c,Fh l] Hp (At (Fb c l)):=by
 refine Ah [.tmp 4] [0,1] Tryz.func82 Tryz.ntmps82 (fun d=>?_)
 refine Z64 ?_;refine Z23 ?_;refine A7 Tryz.call26 (c26 c hc _) ?_;refine Z46 ?_;refine Z90 ?_;refine A2 [0,1,16] ?_
 refine A3 (fun ht16=>?_) (fun ht16=>?_)
 ·have hm:Fb c l=false:=by
   simp only [B6,C7,Ju,bne_iff_ne,ne_eq] at ht16
   unfold Fb
   rcases ht16 with h|h
   ·rw [h];rfl
   rw [show (l.length==c.length)=false by simpa using (show l.length≠c.length by omega)];simp
  exact bh
 have hcl:N9 c=true∧l.length=c.length:=by
  simp only [B6,Cv,Jt,bne_eq_false_iff_eq] at ht16
  exact ⟨ht16.1,by omega⟩
 refine L2 ?_;refine A2 [0,17,18,19] ?_
 refine Bh (α:=Nat) (fun x=>⟨43,A9 0 (Ce c) (A9 17 (Fh l) (A9 18 (A5 (l.length:Nat)) (A9 19 (A5 (x:Nat)) (fun _=>.any)))),Hp,[],[],none⟩) (fun x=>RowAt c l x) (fun x=>l.length-x) (0) ⟨Av _,fun i v y h=>by omega⟩ (Bc (by simp)) rfl (fun x hx=>?_)
 refine Z2 ?_;refine A2 [0,17,18,19,20] ?_
 refine Gz (fun ht20=>?_) (fun ht20=>?_)
 ·have hlt:x<l.length:=by simpa using ht20
  have hlc:x<c.length:=by omega
  refine Xp ?_
  refine A4 (h:=Ag (x) (B8 l[x]) (fun _=>B7 hlt)) (hr:=?_)
  refine A4 ?_;refine vl ?_;refine A2 [0,5,6,17,18,19] ?_;refine Ct [0,1,3,7,15,31,63,127,255,511,255,255,3327,7423,15615,32767,65535,131071] 15 Aj (by kernel_rfl) ?_;refine An ?_;refine Cy Tryz.call120 (wn _ _) ?_;refine Z10 ?_;refine Z72 ?_;refine Z72 ?_;refine Z72 ?_;refine Z72 ?_
  refine Ga (h:=Ag (x) (N5 c[x]) (fun _=>B7 hlc)) (hr:=?_)
  refine Z72 ?_;refine Ee ?_;refine Qa ?_;refine A2 [0,17,18,19,41] ?_
  refine A3 (fun ht41=>?_) (fun ht41=>?_)
  ·have hm:=RowAt.bad hlt hlc ht41
   exact vk
  refine Vf ?_;refine A2 [0,17,18,19] ?_;refine B5 (x+1) (hx.next hlt hlc ht41) (by omega) ?_
  exact E5 (own:=[]) (fun _=>.refl _) (by repeat (first|exact C5|refine C4 (by first|exact ia|exact low_cols|(simp [or_imp,forall_and];done)) ?_)) (by simp) (by simp)
 have hxe:l.length≤x:=by simpa using ht20
 have hm:Fb c l=true:=row_iff.2 ⟨by rw [←Lz];exact hcl.1,hcl.2,fun i v y hv hy=>hx.ok i v y (by have:=(Ad.1 hv).1;omega) hv hy⟩
 refine Z31 ?_;exact vu

theorem yu {e:Expr} (h:Cu e=true):L9 e=true:=by
 unfold L9
 cases Hf h with
 | val v hp h0=>simpa [K5,Expr.op,Expr.val] using hp
 | name t ht=>rfl
 | neg a=>rfl
 | no a=>rfl
 | bin t a b ht=>rfl
 | call t k ht=>rfl
mutual
theorem cn:∀e:Expr,Dk Cu e=true→Dk L9 e=true
 | .mk o t v k,h=>by
  rw [Dk,Al] at h ⊢
  exact ⟨yu h.1,ic k h.2⟩
theorem ic:∀k:List Expr,Hw Cu k=true→Hw L9 k=true
  | [],_=>rfl
  | e::r,h=>by
    rw [Hw,Al] at h ⊢
    exact ⟨cn e h.1,ic r h.2⟩
 end
theorem yw {c:List Col} {l:List Val} (h:Fb c l=true) (hr:∀v∈l, -9223372036854775808≤v.n∧v.n≤9223372036854775807):∀v∈l,Fine v:=fun v hv=>by
 obtain ⟨i,hi⟩:=Cg hv
 obtain ⟨_,h2,h3⟩:=row_iff.1 h
 have hil:=(Ad.1 hi).1
 exact ⟨(h3 i v _ hi (Aa (show i<c.length by omega))).1,(hr v hv).1,(hr v hv).2⟩
theorem AN7 (n:Nat) (x:Expr) (hok:okE n x) (hn:n≤1048576) (hrg:Dk Hy x=true) (c:List Col) (hc:OkCols c) (l:List Val) (hll:l.length≤1048576) (hlr:∀v∈l, -9223372036854775808≤v.n∧v.n≤9223372036854775807) (Hp:List AObj):AFun Tryz.prog 121 [Ae x,Ce c,Fh l] Hp (Nk (Fx x c l)):=by
 refine Ah [.cell 6 24,.tmp 7] [0,1,2] Tryz.func121 Tryz.ntmps121 (fun d=>?_)
 refine Z2 ?_;refine Z83 ?_;refine A2 [1,2,3,6] ?_;refine Z23 ?_;refine A7 Tryz.call61 (c61 n x hok hn _) ?_;refine Z46 ?_;refine Bw Tryz.call82 (fun hB=>c82 c hc l hll _) ?_;refine Z95 ?_;refine A2 [1,2,3,6,16] ?_
 refine A3 (fun ht16=>?_) (fun ht16=>?_)
 ·have hm:Fx x c l=Ch 1:=if_pos ht16
  refine Xm ?_;refine Z21 ?_;exact Z44
 have hm:Fx x c l=Ab c l x:=if_neg (by rw [ht16];simp)
 have hrr:C3 x=true∧Fb c l=true:=by simpa using ht16
 obtain ⟨hr,hrow⟩:=hrr
 refine Z88 ?_;refine k7 ?_;refine A4 ?_;refine A7 Tryz.call158 (AN6 c l hc (row_iff.1 hrow).2.1 (yw hrow hlr) n x hok (Ir hr) hrg (cn x (Ir hr)) _) ?_;refine dx ?_;exact AHv

theorem s6 {x:Expr} {c:List Col} {l:List Val} (hk:(Db x c).2=0) (hrow:Fb c l=true):KOk (Db x c).1 (Fx x c l):=by
 obtain ⟨h1,h2,h3⟩:=yb hk
 rw [h3] at hk ⊢
 rw [ABx h1 hrow]
 exact nb hrow (sizeE x) x (Ap _) (Ir h1) hk
theorem yx {l:List Val} (h:Nl l=false):l.length≤1048576:=by
 unfold Nl at h
 simp only [Cv,decide_eq_false_iff_not] at h
 omega
set_option maxRecDepth 8000
/-! What the signs of bits tell. -/
theorem Ww (x:BitVec 64):IntKind.i64.wrap (x.toNat:Int)=x.toInt:=by
 rw [IntKind.wrap_i64,BitVec.toInt_eq_toNat_cond]
 have:=x.isLt
 split<;>omega
theorem Ob {m:Int} (h0 : -9223372036854775808≤m) (h1:m≤9223372036854775807):(BitVec.ofInt 64 m).msb=decide (m<0):=by
 rw [BitVec.msb_eq_toInt,BitVec.toInt_ofInt]
 congr 1
 have:m.bmod (2 ^ 64)=m:=by
  rw [Int.bmod_eq_of_le]<;>omega
 rw [this]
theorem ie {m n:Int} (m0 : -9223372036854775808≤m) (m1:m≤9223372036854775807) (n0 : -9223372036854775808≤n) (n1:n≤9223372036854775807):decide (Sp .i64 m n<0)=(decide (m<0)&&decide (n<0)):=by
 have e:Sp .i64 m n=(BitVec.ofInt 64 m &&& BitVec.ofInt 64 n).toInt:=Ww _
 rw [e,←BitVec.msb_eq_toInt,BitVec.msb_and,Ob m0 m1,Ob n0 n1]
theorem Qq {m n:Int} (m0 : -9223372036854775808≤m) (m1:m≤9223372036854775807) (n0 : -9223372036854775808≤n) (n1:n≤9223372036854775807):decide (Ma .i64 m n<0)=(decide (m<0) ^^ decide (n<0)):=by
 have e:Ma .i64 m n=(BitVec.ofInt 64 m ^^^ BitVec.ofInt 64 n).toInt:=Ww _
 rw [e,←BitVec.msb_eq_toInt,BitVec.msb_xor,Ob m0 m1,Ob n0 n1]
theorem Is (m n:Int) : -9223372036854775808≤Ma .i64 m n∧Ma .i64 m n≤9223372036854775807:=Im _
/-- num.Add: the sum, where 64 bits hold it. -/
theorem AC9 {a b:Int} (a0 : -9223372036854775808≤a) (a1:a≤9223372036854775807) (b0 : -9223372036854775808≤b) (b1:b≤9223372036854775807):Wl a b=if -9223372036854775808≤a+b∧a+b≤9223372036854775807 then (a+b,0) else (0,4):=by
 have hw:=IntKind.wrap_i64 (a+b)
 have hc:=Im (a+b)
 unfold Wl
 generalize IntKind.i64.wrap (a+b)=c at hw hc ⊢
 rw [ie (Is _ _).1 (Is _ _).2 (Is _ _).1 (Is _ _).2,Qq a0 a1 hc.1 hc.2,Qq b0 b1 hc.1 hc.2]
 by_cases ha:a<0<;>by_cases hb:b<0<;>by_cases hcn:c<0<;>simp [ha,hb,hcn]<;>(try split)<;>(try simp)<;>omega
/-- num.Sub. -/
theorem nl {a b:Int} (a0 : -9223372036854775808≤a) (a1:a≤9223372036854775807) (b0 : -9223372036854775808≤b) (b1:b≤9223372036854775807):Ji a b=if -9223372036854775808≤a-b∧a-b≤9223372036854775807 then (a-b,0) else (0,4):=by
 have hw:=IntKind.wrap_i64 (a-b)
 have hc:=Im (a-b)
 unfold Ji
 generalize IntKind.i64.wrap (a-b)=c at hw hc ⊢
 rw [ie (Is _ _).1 (Is _ _).2 (Is _ _).1 (Is _ _).2,Qq a0 a1 b0 b1,Qq a0 a1 hc.1 hc.2]
 by_cases ha:a<0<;>by_cases hb:b<0<;>by_cases hcn:c<0<;>simp [ha,hb,hcn]<;>(try split)<;>(try simp)<;>omega
theorem Oc {a:Int} (a0 : -9223372036854775808≤a) (a1:a≤9223372036854775807):J5 a=(a.natAbs:Int):=by
 have h1:=IntKind.wrap_u64 a
 have h2:=IntKind.wrap_u64 (0-IntKind.u64.wrap a)
 unfold J5
 split
 ·rename_i h
  have h:a<0:=by simpa using h
  omega
 rename_i h
 have h:¬a<0:=by simpa using h
 omega
/-- num.Mul. -/
theorem ACa {a b:Int} (a0 : -9223372036854775808≤a) (a1:a≤9223372036854775807) (b0 : -9223372036854775808≤b) (b1:b≤9223372036854775807):Pj a b=if -9223372036854775808≤a*b∧a*b≤9223372036854775807 then (a*b,0) else (0,4):=by
 have hs:((a<0↔b<0)→a*b=(a.natAbs:Int)*(b.natAbs:Int))∧(¬(a<0↔b<0)→a*b = -((a.natAbs:Int)*(b.natAbs:Int))):=by
  rcases Int.natAbs_eq a with ha|ha<;>rcases Int.natAbs_eq b with hb|hb
  ·refine ⟨fun _=>by rw [←ha,←hb],fun h=>?_⟩
   exfalso
   omega
  ·refine ⟨fun h=>?_,fun _=>by rw [Int.neg_mul_eq_mul_neg,←hb,←ha]⟩
   have hz:b.natAbs=0:=by omega
   have:b=0:=by omega
   subst this
   simp
  ·refine ⟨fun h=>?_,fun _=>by rw [←Int.neg_mul,←hb,←ha]⟩
   have:a=0:=by omega
   subst this
   simp
  refine ⟨fun _=>?_,fun h=>?_⟩
  ·have:=Int.neg_mul_neg (a.natAbs:Int) (b.natAbs:Int)
   rw [←ha,←hb] at this
   exact this
  by_cases hz:a=0
  ·subst hz;simp
  have:b=0:=by omega
  subst this
  simp
 unfold Pj
 simp only [Oc a0 a1,Oc b0 b1]
 have hp:0≤(a.natAbs:Int)*(b.natAbs:Int):=Int.mul_nonneg (Int.natCast_nonneg _) (Int.natCast_nonneg _)
 generalize hP:(a.natAbs:Int)*(b.natAbs:Int)=p at hs hp ⊢
 generalize hQ:a*b=q at hs ⊢
 have hu:=IntKind.wrap_u64 (0-p % 18446744073709551616)
 have hi:=IntKind.wrap_i64 (IntKind.u64.wrap (0-p % 18446744073709551616))
 have hj:=IntKind.wrap_i64 (p % 18446744073709551616)
 by_cases hab:(a<0↔b<0)
 ·have hq:=hs.1 hab
  have hbl:(decide (a<0) != decide (b<0))=false:=by simp [hab]
  rw [hbl]
  simp only [Af,if_false]
  subst hq
  by_cases hc:(decide (0<q / 18446744073709551616) || decide (9223372036854775807<q % 18446744073709551616))=true
  ·rw [if_pos hc,if_neg]
   simp only [C7,decide_eq_true_eq] at hc
   omega
  rw [if_neg hc]
  simp only [C7,decide_eq_true_eq,not_or,Int.not_lt] at hc
  rw [if_pos (by omega)]
  congr 1
  omega
 have hq:=hs.2 hab
 have hbl:(decide (a<0) != decide (b<0))=true:=by
  by_cases h1:a<0<;>by_cases h2:b<0<;>simp_all
 rw [hbl]
 simp only [if_true]
 subst hq
 by_cases hc:(decide (0<p / 18446744073709551616) || decide (9223372036854775808<p % 18446744073709551616))=true
 ·rw [if_pos hc,if_neg]
  simp only [C7,decide_eq_true_eq] at hc
  omega
 rw [if_neg hc]
 simp only [C7,decide_eq_true_eq,not_or,Int.not_lt] at hc
 rw [if_pos (by omega)]
 congr 1
 omega
/-! Sizes in digits to the base of 2^32. -/
abbrev B32:Nat:=4294967296
def dig (m i:Nat):Nat:=m / B32 ^ i % B32
theorem Bq (m i:Nat):dig m i<4294967296:=Hr _ (by decide)
theorem pw (i:Nat):0<B32 ^ i:=Nat.pow_pos (by decide)
theorem K9 (m i:Nat):m % B32 ^ (i+1)=m % B32 ^ i+B32 ^ i*dig m i:=Nat.mod_pow_succ
theorem Qr (m i:Nat):m / B32 ^ (i+1)=m / B32 ^ i / B32:=by rw [Nat.pow_succ,ah]
def car (a b i:Nat):Nat:=(a % B32 ^ i+b % B32 ^ i) / B32 ^ i
theorem yy (a b:Nat):car a b 0=0:=by simp [car,Nx]
theorem yz (a b i:Nat):car a b i≤1:=by
 have h1:=Hr a (pw i)
 have h2:=Hr b (pw i)
 have:car a b i<2:=by
  unfold car
  rw [Nat.div_lt_iff_lt_mul (pw i)]
  omega
 omega
theorem z6 (P x y da db:Nat) (hP:0<P):(da+db+(x+y) / P) / B32=(x+P*da+(y+P*db)) / (P*B32):=by
 have e:x+P*da+(y+P*db)=(x+y)+P*(da+db):=by rw [Jd];omega
 rw [e,←ah,U8 _ _ hP,U7]
theorem z7 (a b i:Nat):(dig a i+dig b i+car a b i) / 4294967296=car a b (i+1):=by
 unfold car
 rw [K9,K9,Nat.pow_succ]
 exact z6 _ _ _ _ _ (pw i)
theorem ACb (P a b:Nat) (hP:0<P):(a+b) / P=a / P+b / P+(a % P+b % P) / P:=by
 have ha:=Nv a P
 have hb:=Nv b P
 have e:a+b=(a % P+b % P)+P*(a / P+b / P):=by rw [Jd];omega
 calc (a+b) / P=((a % P+b % P)+P*(a / P+b / P)) / P:=by rw [←e]
  _=(a % P+b % P) / P+(a / P+b / P):=U8 _ _ hP
  _=_:=U7 _ _
theorem ACc (a b i:Nat):(dig a i+dig b i+car a b i) % 4294967296=dig (a+b) i:=by
 unfold dig
 rw [ACb _ a b (pw i)]
 unfold car
 generalize (a % B32 ^ i+b % B32 ^ i) / B32 ^ i=c
 generalize a / B32 ^ i=x
 generalize b / B32 ^ i=y
 show (x % 4294967296+y % 4294967296+c) % 4294967296=(x+y+c) % 4294967296
 omega
def bor (a b i:Nat):Nat:=if a % B32 ^ i<b % B32 ^ i then 1 else 0
theorem ig (a b:Nat):bor a b 0=0:=by simp [bor,Nx]
theorem lq (a b i:Nat):bor a b i≤1:=by unfold bor;split<;>omega
theorem s7 (P x y da db:Nat) (hx:x<P) (hy:y<P):(x+P*da<y+P*db)↔(da<db∨(da=db∧x<y)):=by
 constructor
 ·intro h
  rcases Nat.lt_trichotomy da db with h1|h1|h1
  ·exact .inl h1
  ·subst h1;exact .inr ⟨rfl,by omega⟩
  exfalso
  have:P*(db+1)≤P*da:=ak P h1
  rw [Jd] at this
  omega
 rintro (h|⟨rfl,h⟩)
 ·have:P*(da+1)≤P*db:=ak P h
  rw [Jd] at this
  omega
 omega
theorem ii (a b i:Nat):1-(4294967296+dig a i-dig b i-bor a b i) / 4294967296=bor a b (i+1):=by
 have hd:=s7 (B32 ^ i) (a % B32 ^ i) (b % B32 ^ i) (dig a i) (dig b i) (Hr _ (pw i)) (Hr _ (pw i))
 have h1:=Bq a i
 have h2:=Bq b i
 have hb:bor a b (i+1)=if (dig a i<dig b i∨(dig a i=dig b i∧a % B32 ^ i<b % B32 ^ i)) then 1 else 0:=by
  unfold bor
  rw [K9,K9]
  by_cases h:a % B32 ^ i+B32 ^ i*dig a i<b % B32 ^ i+B32 ^ i*dig b i
  ·rw [if_pos h,if_pos (hd.1 h)]
  rw [if_neg h,if_neg fun h'=>h (hd.2 h')]
 rw [hb]
 unfold bor
 by_cases hlt:a % B32 ^ i<b % B32 ^ i
 ·rw [if_pos hlt]
  by_cases hc:dig a i<dig b i∨dig a i=dig b i∧a % B32 ^ i<b % B32 ^ i
  ·rw [if_pos hc]
   have:dig a i≤dig b i:=by rcases hc with h|h;omega;omega
   omega
  rw [if_neg hc]
  have:dig b i<dig a i:=by
   rcases Nat.lt_trichotomy (dig a i) (dig b i) with h|h|h
   ·exact absurd (.inl h) hc
   ·exact absurd (.inr ⟨h,hlt⟩) hc
   exact h
  omega
 rw [if_neg hlt]
 by_cases hc:dig a i<dig b i∨dig a i=dig b i∧a % B32 ^ i<b % B32 ^ i
 ·rw [if_pos hc]
  have:dig a i<dig b i:=by
   rcases hc with h|h
   ·exact h
   exact absurd h.2 hlt
  omega
 rw [if_neg hc]
 have:dig b i≤dig a i:=by
  rcases Bf (dig a i) (dig b i) with h|h
  ·exact absurd (.inl h) hc
  exact h
 omega
theorem ACd (P a b:Nat) (hP:0<P) (h:b≤a):(a-b) / P+(if a % P<b % P then 1 else 0)+b / P=a / P:=by
 have ha:=Nv a P
 have hb:=Nv b P
 have hm1:=Hr a hP
 have hm2:=Hr b hP
 have hq:b / P≤a / P:=ai h
 obtain ⟨t,ht⟩:∃t,a / P=b / P+t:=⟨a / P-b / P,by omega⟩
 rw [ht,Jd] at ha
 by_cases hlt:a % P<b % P
 ·rw [if_pos hlt]
  cases t with
  | zero=>rw [Nat.mul_zero] at ha;omega
  | succ t =>
   rw [Jd,Nat.mul_one] at ha
   have e:a-b=(P+a % P-b % P)+P*t:=by omega
   rw [e,U8 _ _ hP,Nt (by omega),ht]
   omega
 rw [if_neg hlt]
 have e:a-b=(a % P-b % P)+P*t:=by omega
 rw [e,U8 _ _ hP,Nt (by omega),ht]
 omega
theorem np {a b:Nat} (h:b≤a) (i:Nat):(4294967296+dig a i-dig b i-bor a b i) % 4294967296=dig (a-b) i:=by
 have hd:=ACd (B32 ^ i) a b (pw i) h
 have hb:=lq a b i
 unfold bor at hb ⊢
 unfold dig
 generalize (if a % B32 ^ i<b % B32 ^ i then 1 else 0)=c at *
 generalize (a-b) / B32 ^ i=z at *
 generalize a / B32 ^ i=x at *
 generalize b / B32 ^ i=y at *
 show (4294967296+x % 4294967296-y % 4294967296-c) % 4294967296=z % 4294967296
 omega
/-- Which of two sizes is smaller, digit by digit from above. -/
theorem ACe {a b n:Nat} (h:a / B32 ^ (n+1)=b / B32 ^ (n+1)) (hd:dig a n≠dig b n):decide (a<b)=decide (dig a n<dig b n):=by
 rw [Qr,Qr] at h
 have e:a / B32 ^ n<b / B32 ^ n↔dig a n<dig b n:=by
  unfold dig at hd ⊢
  generalize a / B32 ^ n=x at *
  generalize b / B32 ^ n=y at *
  have h':x / 4294967296=y / 4294967296:=h
  show x<y↔x % 4294967296<y % 4294967296
  omega
 have hne:a / B32 ^ n≠b / B32 ^ n:=fun e'=>hd (by unfold dig;rw [e'])
 rw [decide_eq_decide,←e]
 constructor
 ·intro hl
  have:=ai (c:=B32 ^ n) (Nat.le_of_lt hl)
  omega
 intro hl
 rcases Bf a b with h1|h1
 ·exact h1
 have:=ai (c:=B32 ^ n) h1
 omega
theorem s8 {a b n:Nat} (h:a / B32 ^ (n+1)=b / B32 ^ (n+1)) (hd:dig a n=dig b n):a / B32 ^ n=b / B32 ^ n:=by
 rw [Qr,Qr] at h
 unfold dig at hd
 generalize a / B32 ^ n=x at *
 generalize b / B32 ^ n=y at *
 have h':x / 4294967296=y / 4294967296:=h
 have hd':x % 4294967296=y % 4294967296:=hd
 omega
set_option maxRecDepth 4000
/-! A wide number: a sign and five digits to the base of 2^32. -/
abbrev wF (s:Bool) (f:Nat→Nat):List AV:=[At s,Bd (f 0:Nat),Bd (f 1:Nat),Bd (f 2:Nat),Bd (f 3:Nat),Bd (f 4:Nat)]
abbrev pF (f:Nat→Nat):List AV:=[Bd (f 0:Nat),Bd (f 1:Nat),Bd (f 2:Nat),Bd (f 3:Nat),Bd (f 4:Nat)]
theorem Qs {f:Nat→Nat} {k:Nat} (h:k<5):(pF f).drop (k*1)=Bd (f k:Nat)::(pF f).drop (k+1):=by
 rcases k with _|_|_|_|_|k
 all_goals first|rfl|omega
theorem Te {s:Bool} {f:Nat→Nat} {k:Nat} (h:k<5):(wF s f)[1+k*1]? = some (Bd (f k:Nat)):=by
 rcases k with _|_|_|_|_|k
 all_goals first|rfl|omega
def Tf (m k i:Nat):Nat:=if i<k then dig m i else 0
theorem co {s:Bool} {f g:Nat→Nat} {k v:Nat} (h:k<5) (hg:g k=v) (he:∀i,i≠k→g i=f i):Bz (wF s f) (1+k*1) [Bd (v:Nat)]=wF s g:=by
 subst hg
 rcases k with _|_|_|_|_|k
 ·rw [wF,wF,he 1 (by decide),he 2 (by decide),he 3 (by decide),he 4 (by decide)];rfl
 ·rw [wF,wF,he 0 (by decide),he 2 (by decide),he 3 (by decide),he 4 (by decide)];rfl
 ·rw [wF,wF,he 0 (by decide),he 1 (by decide),he 3 (by decide),he 4 (by decide)];rfl
 ·rw [wF,wF,he 0 (by decide),he 1 (by decide),he 2 (by decide),he 4 (by decide)];rfl
 ·rw [wF,wF,he 0 (by decide),he 1 (by decide),he 2 (by decide),he 3 (by decide)];rfl
 omega
theorem Sg {s:Bool} {m k:Nat} (h:k<5):Bz (wF s (Tf m k)) (1+k*1) [Bd (dig m k:Nat)]=wF s (Tf m (k+1)):=by
 refine co h (by unfold Tf;rw [if_pos (by omega)]) fun i hi=>?_
 unfold Tf
 by_cases h1:i<k
 ·rw [if_pos h1,if_pos (by omega)]
 rw [if_neg h1,if_neg (by omega)]
theorem Sh (m:Nat) (s:Bool):wF s (Tf m 5)=wF s (dig m):=rfl
theorem s9 {x y z:Nat} (h:x+y+z<18446744073709551616):IntKind.u64.wrap (IntKind.u64.wrap ((x:Int)+(y:Int))+(z:Int))=((x+y+z:Nat):Int):=by
 simp only [IntKind.wrap_u64];omega
theorem Tz (x:Nat):(x:Int).tmod 4294967296=((x % 4294967296:Nat):Int):=by
 rw [Uu (by omega)];omega
theorem U0 {x:Nat} (h:x<18446744073709551616):IntKind.u64.wrap ((x:Int).tdiv 4294967296)=((x / 4294967296:Nat):Int):=by
 rw [Ut (by omega),IntKind.wrap_u64];omega
theorem Er {m i:Nat} (h:m<B32 ^ i):dig m i=0:=by unfold dig;rw [Nt h];rfl
theorem nq (m:Nat):dig m 0=m % 4294967296:=by unfold dig;simp
theorem z8 (m:Nat):dig m 1=m / 4294967296 % 4294967296:=by unfold dig;simp [B32]
/-- A number's ACv. -/
abbrev Wx (a:Int):List AV:=[At (decide (a<0)),Bd ((J5 a).tmod 4294967296),Bd (IntKind.u64.wrap ((J5 a).tdiv 4294967296)),Bd 0,Bd 0,Bd 0]
theorem ACf {a:Int} (h0 : -9223372036854775808≤a) (h1:a≤9223372036854775807):Wx a=wF (decide (a<0)) (dig a.natAbs):=by
 have hs:=Oc h0 h1
 have hb:a.natAbs<18446744073709551616:=by omega
 unfold Wx wF
 rw [hs,Tz,U0 hb,nq,z8,Nw (show a.natAbs / 4294967296<4294967296 by omega)]
 have e2:dig a.natAbs 2=0:=Er (Cc hb (by decide))
 have e3:dig a.natAbs 3=0:=Er (Cc hb (by decide))
 have e4:dig a.natAbs 4=0:=Er (Cc hb (by decide))
 rw [e2,e3,e4]
 rfl
theorem c56 (a:Int) (Hp:List AObj):AFun Tryz.prog 56 [A5 a] Hp (.agg (Wx a)):=by
 refine Ah [.cell 2 100] [0] Tryz.func56 Tryz.ntmps56 (fun d=>?_)
 refine Z75 ?_;refine Z1 ?_;refine Z62 ?_;refine A2 [0,2,3] ?_;refine Z13 ?_;refine A2 [0,2,3,4] ?_;refine Z8 ?_;refine A2 [2,3,4,11] ?_
 refine A3 (fun ht11=>?_) (fun ht11=>?_)
 ·have hm:J5 a=IntKind.u64.wrap (0-IntKind.u64.wrap a):=if_pos ht11
  refine Z43 ?_
  refine A4 (h:=Iw) (hr:=?_)
  refine A4 ?_;refine Tx ?_;refine Ef ?_;refine Z13 ?_;refine AB2 ?_;refine F1 ?_;refine Tx ?_;refine Z13 ?_;refine AAg ?_;refine A2 [2,3] ?_;refine Z2 ?_;exact AHp
 have hm:J5 a=IntKind.u64.wrap a:=if_neg (by rw [ht11];simp)
 refine Oh ?_;refine AB2 ?_;refine F1 ?_;refine Tx ?_;refine Z13 ?_;refine AAg ?_;refine A2 [2,3] ?_;refine Z2 ?_;exact AHp

theorem sc (a:Int) (h0 : -9223372036854775808≤a) (h1:a≤9223372036854775807) (Hp:List AObj):AFun Tryz.prog 56 [A5 a] Hp (.agg (wF (decide (a<0)) (dig a.natAbs))):=by
 rw [←ACf h0 h1]
 exact c56 a Hp
theorem c55 (s:Bool) (f:Nat→Nat) (Hp:List AObj):AFun Tryz.prog 55 [.agg (wF s f)] Hp (.agg (wF (!s) f)):=by
 refine Ah [.cell 2 100] [0] Tryz.func55 Tryz.ntmps55 (fun d=>?_)
 refine Eg ?_;refine R.box ?_;refine Ks ?_;refine A2 [1,2] ?_;refine Z20 ?_;refine F1 ?_;refine A2 [1,2] ?_;refine Z2 ?_;exact AAk

theorem AN8 (a b:Nat) (ha:a<B32 ^ 5) (hb:b<B32 ^ 5) (Hp:List AObj):AFun Tryz.prog 123 [.agg (pF (dig a)),.agg (pF (dig b))] Hp (At (decide (a<b))):=by
 refine Ah [.tmp 4] [0,1] Tryz.func123 Tryz.ntmps123 (fun d=>?_)
 refine pl ?_;refine Z23 ?_;refine A2 [2,3,5] ?_
 refine Bh (α:=Nat) (fun k=>⟨24,A9 2 (.ro (pF (dig a))) (A9 3 (.ro (pF (dig b))) (A9 5 (A5 ((k:Nat)-1)) (fun _=>.any))),Hp,[],[],none⟩) (fun k=>k≤5∧a / B32 ^ k=b / B32 ^ k) (fun k=>k) (5) ⟨Ap _,by rw [Nt ha,Nt hb]⟩ (Bc rfl) rfl (fun k hx=>?_)
 refine Z8 ?_;refine A2 [2,3,5,7] ?_
 refine A3 (fun ht7=>?_) (fun ht7=>?_)
 ·have hk0:1≤k:=by simp only [decide_eq_true_eq] at ht7;omega
  have hq:a / B32 ^ (k-1+1)=b / B32 ^ (k-1+1):=by rw [Nat.sub_add_cancel hk0];exact hx.2
  refine Z53 ?_;refine Ct [0,1,3,0,8,24,63] 6 Aj (by kernel_rfl) ?_;refine AHw ?_;refine Z10 ?_;refine AHx ?_;refine A4 ?_;refine A2 [2,3,5,16] ?_
  refine A3 (fun ht16=>?_) (fun ht16=>?_)
  ·have hl:=ACe hq (fun e=>by rw [e] at ht16;simp at ht16)
   refine Ct [0,1,3,0,8,24,63,127] 6 Aj (by kernel_rfl) ?_;refine AHw ?_;refine Z10 ?_;refine AHx ?_;refine Z0 ?_;refine py ?_;exact A8 (Ai A6) ⟨by rw [hl];simp,rfl⟩
  have hn:=s8 hq (by have:((dig a (k-1):Nat):Int)=((dig b (k-1):Nat):Int):=(by simpa using ht16);omega)
  refine Z96 ?_;refine A2 [2,3,5] ?_
  rw [show ((k:Int)-1-1)=(((k-1:Nat):Int)-1) by omega]
  exact B5 (k-1) ⟨by omega,hn⟩ (by omega) (Bx rfl)
 have hk0:k=0:=by simp only [decide_eq_false_iff_not] at ht7;omega
 have hab:a=b:=by have:=hx.2;rw [hk0] at this;simpa using this
 refine Z52 ?_;refine bg ?_;exact A8 (Ai A6) ⟨by rw [hab];simp,rfl⟩

theorem AKl {x y z:Nat} (hx:x<4294967296) (hy:y<4294967296) (hz:z≤1):IntKind.u64.wrap (IntKind.u64.wrap (IntKind.u64.wrap (4294967296+(x:Int))-(y:Int))-(z:Int))=((4294967296+x-y-z:Nat):Int):=by
 simp only [IntKind.wrap_u64];omega
theorem AE8 {q:Nat} (h:q≤1):IntKind.u64.wrap (1-(q:Int))=((1-q:Nat):Int):=by
 simp only [IntKind.wrap_u64];omega
section
variable (sa:Bool) (a:Nat) (sb:Bool) (b:Nat)
/-- The greater one, and the other. -/
def hiW:Bool×Nat:=if decide (a<b)=true then (sb,b) else (sa,a)
def loW:Bool×Nat:=if decide (a<b)=true then (sa,a) else (sb,b)
def Qt:Bool×Nat:=if (sa==sb)=true then (sa,a+b) else ((hiW sa a sb b).1,(hiW sa a sb b).2-(loW sa a sb b).2)
end
theorem AE9 {sa:Bool} {a:Nat} {sb:Bool} {b:Nat}:(loW sa a sb b).2≤(hiW sa a sb b).2:=by
 unfold loW hiW
 split
 ·rename_i h;have:=of_decide_eq_true h;simp only;omega
 rename_i h;simp only [decide_eq_true_eq] at h;simp only;omega
theorem c86 (sa:Bool) (a:Nat) (sb:Bool) (b:Nat) (ha:a<B32 ^ 5) (hb:b<B32 ^ 5) (Hp:List AObj):AFun Tryz.prog 86 [.agg (wF sa (dig a)),.agg (wF sb (dig b))] Hp (.agg (wF (Qt sa a sb b).1 (dig (Qt sa a sb b).2))):=by
 refine Ah [.cell 4 100] [0,1] Tryz.func86 Tryz.ntmps86 (fun d=>?_)
 refine Eg ?_;refine R.box ?_;refine R.box ?_;refine Ks ?_;refine Tx ?_;refine Z1 ?_;refine Z62 ?_;refine Vh ?_;refine Lu ?_;refine A2 [2,3,4,5,19] ?_
 refine A3 (fun ht19=>?_) (fun ht19=>?_)
 ·have had:Qt sa a sb b=(sa,a+b):=if_pos ht19
  refine Z2 ?_;refine A2 [2,3,4,5,6] ?_;refine Z23 ?_;refine A2 [2,3,4,5,6,7] ?_
  refine Bh (α:=Nat) (fun k=>⟨78,A9 2 (.ptr (oid Hp.length 0) 0) (A9 3 (.ptr (oid Hp.length 1) 0) (A9 4 (.ptr (oid Hp.length 2) 0) (A9 5 (.ptr (oid Hp.length 3) 0) (A9 6 (Bd (car a b k:Nat)) (A9 7 (A5 (k:Nat)) (fun _=>.any)))))),Hp,[.cells 100 (wF sa (dig a)),.cells 100 (wF sb (dig b)),.cells 100 [At false,Bd 0,Bd 0,Bd 0,Bd 0,Bd 0],.cells 100 (wF sa (Tf (a+b) k))],[],none⟩) (fun k=>k≤5) (fun k=>5-k) (0) (Av _) (Bc (by rw [yy];rfl)) rfl (fun k hx=>?_)
  refine Z8 ?_;refine A2 [2,3,4,5,6,7,21] ?_
  refine A3 (fun ht21=>?_) (fun ht21=>?_)
  ·have hk:k<5:=by simp at ht21;omega
   refine Z53 ?_;refine Ct [0,0,3,7,0,0,48,112,255,0,1023,2047] 10 Aj (by kernel_rfl) ?_;refine vb ?_
   refine An (h:=Mw (hy:=Te hk)) (hr:=?_)
   refine vb ?_
   refine An (h:=Mw (hy:=Te hk)) (hr:=?_)
   refine An (h:=Ev) (hr:=?_)
   refine Tr ?_
   refine A4 (h:=Ev) (hr:=?_)
   refine A4 ?_;refine A2 [2,3,4,5,7,8] ?_;refine Eg ?_
   rw [s9 (by have:=Bq a k;have:=Bq b k;have:=yz a b k;omega)]
   refine Z11 ?_
   rw [Tz,ACc]
   refine AF2 ?_
   refine My jS (hput:=Sg hk) (hfit:=by simp;omega) ?_
   refine A2 [2,3,4,5,7,8] ?_;refine Z28 ?_
   rw [U0 (by have:=Bq a k;have:=Bq b k;have:=yz a b k;omega),z7]
   refine A4 ?_;refine A2 [2,3,4,5,6,7] ?_;refine N3 ?_;refine A2 [2,3,4,5,6,7] ?_;exact B5 (k+1) hk (by omega) (Bx rfl)
  have hke:k=5:=by simp at ht21;omega
  refine Z52 ?_;refine Eg ?_
  rw [hke,Sh]
  refine AAx ?_;refine A2 [4] ?_;refine Z9 ?_;exact AJk
 have had:Qt sa a sb b=((hiW sa a sb b).1,(hiW sa a sb b).2-(loW sa a sb b).2):=if_neg (by rw [ht19];simp)
 refine jy ?_;refine A7 Tryz.call123 (AN8 a b ha hb _) ?_;refine A2 [2,3,4,5,47] ?_
 refine A3 (fun ht47=>?_) (fun ht47=>?_)
 ·have hhi:(hiW sa a sb b)=(sb,b):=if_pos ht47
  have hlo:(loW sa a sb b)=(sa,a):=if_pos ht47
  refine Z1 ?_;refine F1 ?_;refine F1 ?_;refine Vh ?_;refine AAv ?_;refine Vh ?_;refine Ef ?_;refine Z2 ?_;refine A2 [2,3,4,5,9] ?_;refine Z23 ?_;refine we ?_
  refine Bh (α:=Nat) (fun k=>⟨78,A9 2 (.ptr (oid Hp.length 0) 0) (A9 3 (.ptr (oid Hp.length 1) 0) (A9 4 (.ptr (oid Hp.length 2) 0) (A9 5 (.ptr (oid Hp.length 3) 0) (A9 9 (Bd (bor (hiW sa a sb b).2 (loW sa a sb b).2 k:Nat)) (A9 10 (A5 (k:Nat)) (fun _=>.any)))))),Hp,[.cells 100 (wF (hiW sa a sb b).1 (dig (hiW sa a sb b).2)),.cells 100 (wF (loW sa a sb b).1 (dig (loW sa a sb b).2)),.cells 100 [At false,Bd 0,Bd 0,Bd 0,Bd 0,Bd 0],.cells 100 (wF (hiW sa a sb b).1 (Tf ((hiW sa a sb b).2-(loW sa a sb b).2) k))],[],none⟩) (fun k=>k≤5) (fun k=>5-k) (0) (Av _) (Bc (by rw [ig,hhi,hlo];rfl)) rfl (fun k hx=>?_)
  refine Z8 ?_;refine A2 [2,3,4,5,9,10,54] ?_
  refine A3 (fun ht54=>?_) (fun ht54=>?_)
  ·have hk:k<5:=by simp at ht54;omega
   refine Z53 ?_;refine AI3 ?_
   refine An (h:=Mw (hy:=Te hk)) (hr:=?_)
   refine An (h:=Ev) (hr:=?_)
   refine vb ?_
   refine An (h:=Mw (hy:=Te hk)) (hr:=?_)
   refine An (h:=Iw) (hr:=?_)
   refine Tr ?_
   refine A4 (h:=Iw) (hr:=?_)
   refine A4 ?_;refine A2 [2,3,4,5,10,11] ?_;refine Eg ?_
   rw [AKl (Bq _ k) (Bq _ k) (lq _ _ k)]
   refine Z11 ?_
   rw [Tz,np AE9]
   refine AF2 ?_
   refine My jS (hput:=Sg hk) (hfit:=by simp;omega) ?_
   refine A2 [2,3,4,5,10,11] ?_;refine Z28 ?_
   rw [U0 (by have:=Bq (hiW sa a sb b).2 k;omega)]
   refine A4 (h:=Iw) (hr:=?_)
   rw [AE8 (by have:=Bq (hiW sa a sb b).2 k;omega),ii]
   refine A4 ?_;refine we ?_;refine N3 ?_;exact AHu
  have hke:k=5:=by simp at ht54;omega
  refine Z52 ?_;refine Eg ?_
  rw [hke,Sh]
  refine AAx ?_;exact AIa
 have hhi:(hiW sa a sb b)=(sa,a):=if_neg (by rw [ht47];simp)
 have hlo:(loW sa a sb b)=(sb,b):=if_neg (by rw [ht47];simp)
 refine Z93 ?_;refine A2 [2,3,4,5,9] ?_;refine Z23 ?_;refine we ?_
 refine Bh (α:=Nat) (fun k=>⟨78,A9 2 (.ptr (oid Hp.length 0) 0) (A9 3 (.ptr (oid Hp.length 1) 0) (A9 4 (.ptr (oid Hp.length 2) 0) (A9 5 (.ptr (oid Hp.length 3) 0) (A9 9 (Bd (bor (hiW sa a sb b).2 (loW sa a sb b).2 k:Nat)) (A9 10 (A5 (k:Nat)) (fun _=>.any)))))),Hp,[.cells 100 (wF (hiW sa a sb b).1 (dig (hiW sa a sb b).2)),.cells 100 (wF (loW sa a sb b).1 (dig (loW sa a sb b).2)),.cells 100 [At false,Bd 0,Bd 0,Bd 0,Bd 0,Bd 0],.cells 100 (wF (hiW sa a sb b).1 (Tf ((hiW sa a sb b).2-(loW sa a sb b).2) k))],[],none⟩) (fun k=>k≤5) (fun k=>5-k) (0) (Av _) (Bc (by rw [ig,hhi,hlo];rfl)) rfl (fun k hx=>?_)
 refine Z8 ?_;refine A2 [2,3,4,5,9,10,54] ?_
 refine A3 (fun ht54=>?_) (fun ht54=>?_)
 ·have hk:k<5:=by simp at ht54;omega
  refine Z53 ?_;refine AI3 ?_
  refine An (h:=Mw (hy:=Te hk)) (hr:=?_)
  refine An (h:=Ev) (hr:=?_)
  refine vb ?_
  refine An (h:=Mw (hy:=Te hk)) (hr:=?_)
  refine An (h:=Iw) (hr:=?_)
  refine Tr ?_
  refine A4 (h:=Iw) (hr:=?_)
  refine A4 ?_;refine A2 [2,3,4,5,10,11] ?_;refine Eg ?_
  rw [AKl (Bq _ k) (Bq _ k) (lq _ _ k)]
  refine Z11 ?_
  rw [Tz,np AE9]
  refine AF2 ?_
  refine My jS (hput:=Sg hk) (hfit:=by simp;omega) ?_
  refine A2 [2,3,4,5,10,11] ?_;refine Z28 ?_
  rw [U0 (by have:=Bq (hiW sa a sb b).2 k;omega)]
  refine A4 (h:=Iw) (hr:=?_)
  rw [AE8 (by have:=Bq (hiW sa a sb b).2 k;omega),ii]
  refine A4 ?_;refine we ?_;refine N3 ?_;exact AHu
 have hke:k=5:=by simp at ht54;omega
 refine Z52 ?_;refine Eg ?_
 rw [hke,Sh]
 refine AAx ?_;exact AIa

set_option maxRecDepth 8000
/-! Multiplied digit by digit. -/
def lr (F:Nat→Nat):Nat:=F 0+4294967296*(F 1+4294967296*(F 2+4294967296*(F 3+4294967296*F 4)))
def sd (F:Nat→Nat) (p v j:Nat):Nat:=if j=p then v else F j
theorem H5 (x y j:Nat) (hx:x<4294967296):dig (x+4294967296*y) (j+1)=dig y j:=by
 unfold dig
 rw [Nat.pow_succ,Kf (B32 ^ j),←ah,show (x+4294967296*y) / B32=y by show (x+4294967296*y) / 4294967296=y;omega]
theorem Nm (x y:Nat) (hx:x<4294967296):dig (x+4294967296*y) 0=x:=by
 unfold dig
 simp only [Nat.pow_zero,Nat.div_one]
 show (x+4294967296*y) % 4294967296=x
 omega
theorem nr {F:Nat→Nat} (h:∀j,F j<4294967296):∀j,j<5→dig (lr F) j=F j:=by
 intro j hj
 unfold lr
 rcases j with _|_|_|_|_|j
 ·exact Nm _ _ (h 0)
 ·rw [H5 _ _ _ (h 0)];exact Nm _ _ (h 1)
 ·rw [H5 _ _ _ (h 0),H5 _ _ _ (h 1)];exact Nm _ _ (h 2)
 ·rw [H5 _ _ _ (h 0),H5 _ _ _ (h 1),H5 _ _ _ (h 2)];exact Nm _ _ (h 3)
 ·rw [H5 _ _ _ (h 0),H5 _ _ _ (h 1),H5 _ _ _ (h 2),H5 _ _ _ (h 3)]
  have:=Nm (F 4) 0 (h 4)
  simpa using this
 omega
theorem ACg (F:Nat→Nat) (x c p:Nat) (hp:p<5):lr (sd F p ((F p+x % 4294967296+c % 4294967296) % 4294967296))+((F p+x % 4294967296+c % 4294967296) / 4294967296+x / 4294967296+c / 4294967296)*B32 ^ (p+1)=lr F+(x+c)*B32 ^ p:=by
 unfold lr sd B32
 rcases p with _|_|_|_|_|p
 ·simp only [Nat.reduceEqDiff,if_true,if_false,Nat.reducePow,Nat.reduceAdd,Bm];simp;omega
 ·simp only [Nat.reduceEqDiff,if_true,if_false,Nat.reducePow,Nat.reduceAdd,Bm];simp;omega
 ·simp only [Nat.reduceEqDiff,if_true,if_false,Nat.reducePow,Nat.reduceAdd,Bm];simp;omega
 ·simp only [Nat.reduceEqDiff,if_true,if_false,Nat.reducePow,Nat.reduceAdd,Bm];simp;omega
 ·simp only [Nat.reduceEqDiff,if_true,if_false,Nat.reducePow,Nat.reduceAdd,Bm];simp;omega
 omega
def Wy (a b i k:Nat):Nat:=(a % B32 ^ i)*b+dig a i*(b % B32 ^ k)*B32 ^ i
structure MulAt (F:Nat→Nat) (c a b i k:Nat):Prop where
 dg:∀j,F j<4294967296
 c2:c<8589934592
 eq:lr F+c*B32 ^ (i+k)=Wy a b i k
theorem se (a b i k:Nat):Wy a b i (k+1)=Wy a b i k+dig a i*dig b k*B32 ^ (i+k):=by
 unfold Wy
 rw [K9 b k,Jd,Gk,Nat.pow_add]
 have:dig a i*(B32 ^ k*dig b k)*B32 ^ i=dig a i*dig b k*(B32 ^ i*B32 ^ k):=by simp only [Kf,Nat.mul_left_comm,Nat.mul_assoc]
 omega
theorem ACh (a b i k:Nat):Wy a b i k≤a*b:=by
 have h1:Wy a b i k≤(a % B32 ^ (i+1))*b:=by
  unfold Wy
  rw [K9 a i,Gk]
  have:dig a i*(b % B32 ^ k)*B32 ^ i≤B32 ^ i*dig a i*b:=by
   rw [Nat.mul_right_comm,Kf (dig a i)]
   exact ak _ (Q0 _ _)
  omega
 exact Nu h1 (Kg _ (Q0 _ _))
theorem MulAt.start (a b:Nat):MulAt (fun _=>0) 0 a b 0 0:=⟨fun _=>by decide,by decide,by unfold Wy;simp [lr,Nx]⟩
theorem H9 {x y:Nat} (hx:x<4294967296) (hy:y<4294967296):x*y / 4294967296≤4294967294∧x*y<18446744073709551616:=by
 have:x*y≤4294967295*4294967295:=Nat.mul_le_mul (by omega) (by omega)
 omega
theorem MulAt.step {F:Nat→Nat} {c a b i k:Nat} (h:MulAt F c a b i k) (hp:i+k<5):MulAt (sd F (i+k) ((F (i+k)+dig a i*dig b k % 4294967296+c % 4294967296) % 4294967296)) ((F (i+k)+dig a i*dig b k % 4294967296+c % 4294967296) / 4294967296+dig a i*dig b k / 4294967296+c / 4294967296) a b i (k+1):=by
 have hx:=H9 (Bq a i) (Bq b k)
 have hf:=h.dg (i+k)
 have hc:=h.c2
 refine ⟨fun j=>?_,by omega,?_⟩
 ·unfold sd
  split
  ·exact Hr _ (by decide)
  exact h.dg j
 have:=ACg F (dig a i*dig b k) c (i+k) hp
 rw [se,←h.eq]
 rw [show i+(k+1)=i+k+1 by omega,this,Gk]
 omega
theorem MulAt.idx {F:Nat→Nat} {c a b i k:Nat} (h:MulAt F c a b i k) (ha:a<B32 ^ 2) (hb:b<B32 ^ 2) (hi:i<2) (hc:k<2∨0<c):i+k<4:=by
 rcases Bf (i+k) 4 with h1|h1
 ·exact h1
 exfalso
 have hk:0<c:=by omega
 have h2:B32 ^ 4≤B32 ^ (i+k):=Uc (by decide) h1
 have h3:B32 ^ (i+k)≤c*B32 ^ (i+k):=Py _ hk
 have h4:=ACh a b i k
 have h5:a*b<B32 ^ 2*B32 ^ 2:=Nat.mul_lt_mul'' ha hb
 rw [←Nat.pow_add] at h5
 have h6:=h.eq
 have:B32 ^ (2+2)=B32 ^ 4:=rfl
 omega
theorem MulAt.next {F:Nat→Nat} {a b i k:Nat} (h:MulAt F 0 a b i k) (hb:b<B32 ^ 2) (hk:2≤k):MulAt F 0 a b (i+1) 0:=by
 refine ⟨h.dg,by decide,?_⟩
 have h1:=h.eq
 rw [Ud] at h1 ⊢
 rw [h1]
 unfold Wy
 have h2:b % B32 ^ k=b:=Nw (Cc hb (Uc (by decide) hk))
 rw [h2,K9 a i,Nat.pow_zero,Nx,Nat.mul_zero,Ud,Nat.add_zero,Gk]
 have:dig a i*b*B32 ^ i=B32 ^ i*dig a i*b:=by rw [Nat.mul_right_comm,Kf (dig a i)]
 omega
theorem MulAt.done {F:Nat→Nat} {a b:Nat} (h:MulAt F 0 a b 2 0) (ha:a<B32 ^ 2):∀j,j<5→F j=dig (a*b) j:=by
 intro j hj
 have h1:=h.eq
 have h2:Wy a b 2 0=a*b:=by
  unfold Wy
  rw [Nw ha,Nat.pow_zero,Nx]
  simp
 rw [h2,Ud,Nat.add_zero] at h1
 rw [←h1]
 exact (nr h.dg j hj).symm
set_option maxRecDepth 4000
theorem AKm {x y:Nat} (hx:x<4294967296) (hy:y<4294967296):IntKind.u64.wrap ((x:Int)*(y:Int))=((x*y:Nat):Int):=by
 have:=H9 hx hy
 rw [IntKind.wrap_u64,show (x:Int)*(y:Int)=((x*y:Nat):Int) by simp]
 omega
theorem AEa {x:Nat} (h:x=0):(0:Int).tmod 4294967296=((x % 4294967296:Nat):Int):=by subst h;rfl
theorem AEb {x:Nat} (h:x=0):IntKind.u64.wrap ((0:Int).tdiv 4294967296)=((x / 4294967296:Nat):Int):=by subst h;rfl
theorem sg {b k:Nat} (hb:b<B32 ^ 2) (hk:2≤k):dig b k=0:=Er (Cc hb (Uc (by decide) hk))
theorem c87 (sa:Bool) (a:Nat) (sb:Bool) (b:Nat) (ha:a<B32 ^ 2) (hb:b<B32 ^ 2) (Hp:List AObj):AFun Tryz.prog 87 [.agg (wF sa (dig a)),.agg (wF sb (dig b))] Hp (.agg (wF (sa != sb) (dig (a*b)))):=by
 refine Ah [.cell 4 100] [0,1] Tryz.func87 Tryz.ntmps87 (fun d=>?_)
 refine Z1 ?_;refine Ks ?_;refine Tx ?_;refine jx ?_;refine Z62 ?_;refine Vh ?_;refine Z23 ?_;refine A2 [2,3,4,5,6] ?_
 refine Bh (α:=Nat×(Nat→Nat)) (fun x=>⟨68,A9 2 (.ro (wF sa (dig a))) (A9 3 (.ro (wF sb (dig b))) (A9 4 (.ptr (oid Hp.length 0) 0) (A9 5 (.ptr (oid Hp.length 1) 0) (A9 6 (A5 (x.1:Nat)) (fun _=>.any))))),Hp,[.cells 100 [At false,Bd 0,Bd 0,Bd 0,Bd 0,Bd 0],.cells 100 (wF (sa != sb) (x.2))],[],none⟩) (fun x=>x.1≤2∧MulAt x.2 0 a b x.1 0) (fun x=>2-x.1) ((0,fun _=>0)) ⟨Av _,.start a b⟩ (Bc rfl) rfl (fun x hx=>?_)
 obtain ⟨i,F0⟩:=x
 simp only at hx ⊢
 refine Z8 ?_;refine A2 [2,3,4,5,6,18] ?_
 refine A3 (fun ht18=>?_) (fun ht18=>?_)
 ·have hi:i<2:=by simp at ht18;omega
  refine Z53 ?_;refine Z2 ?_;refine A2 [2,3,4,5,6,7] ?_;refine Z2 ?_;refine wg ?_
  refine Bh (α:=Nat×Nat×(Nat→Nat)) (fun y=>⟨68,A9 2 (.ro (wF sa (dig a))) (A9 3 (.ro (wF sb (dig b))) (A9 4 (.ptr (oid Hp.length 0) 0) (A9 5 (.ptr (oid Hp.length 1) 0) (A9 6 (A5 (i:Nat)) (A9 7 (Bd (y.2.1:Nat)) (A9 8 (A5 (y.1:Nat)) (fun _=>.any))))))),Hp,[.cells 100 [At false,Bd 0,Bd 0,Bd 0,Bd 0,Bd 0],.cells 100 (wF (sa != sb) (y.2.2))],[],none⟩) (fun y=>MulAt y.2.2 y.2.1 a b i y.1) (fun y=>5-(i+y.1)) ((0,0,F0)) hx.2 (Bc rfl) rfl (fun y hm=>?_)
  obtain ⟨k,c,F⟩:=y
  simp only at hm ⊢
  refine Z32 ?_;refine Qa ?_;refine A2 [2,3,4,5,6,7,8,26] ?_
  refine A3 (fun ht26=>?_) (fun ht26=>?_)
  ·have hp4:=hm.idx ha hb hi (by have h26:=ht26;simp at h26;omega)
   refine Z53 ?_;refine Z2 ?_;refine A2 [2,3,4,5,6,7,8,9] ?_;refine Z8 ?_;refine A2 [2,3,4,5,6,7,8,9,30] ?_
   refine A3 (fun ht30=>?_) (fun ht30=>?_)
   ·have hk2:k<2:=by simp at ht30;omega
    refine W.drawQ0 [0,0,3,7,0,0,48,112,255,511] 8 Aj (by kernel_rfl) ?_;refine Z10 ?_;refine jn (i) jU Tryz.sizeOf97 (by omega) (hoff:=Qs (by omega)) ?_;refine Z34 ?_;refine jn (k) jU Tryz.sizeOf97 (by omega) (hoff:=Qs (by omega)) ?_;refine Tr ?_;refine Z0 ?_;refine A2 [2,3,4,5,6,7,8,9] ?_;refine Ef ?_;refine Eg ?_
    first|rw [AKm (Bq a i) (Bq b k)]|skip
    refine AIu ?_
    refine A4 (h:=Mw (hy:=Te (by omega))) (hr:=?_)
    refine Z0 ?_
    first|rw [Tz (dig a i*dig b k)]|rw [AEa hz]
    refine A4 (h:=Ev) (hr:=?_)
    refine Z0 ?_
    rw [Tz c]
    refine A4 (h:=Ev) (hr:=?_)
    refine A4 ?_;refine AB3 ?_;refine Eg ?_
    rw [s9 (by have:=H9 (Bq a i) (Bq b k);have:=hm.dg (i+k);have:=hm.c2;omega)]
    refine Z86 ?_
    rw [Tz (F (i+k)+dig a i*dig b k % 4294967296+c % 4294967296)]
    refine AIt ?_
    refine My jS (hput:=co (g:=sd F (i+k) ((F (i+k)+dig a i*dig b k % 4294967296+c % 4294967296) % 4294967296)) (by omega) (if_pos rfl) (fun j hj=>if_neg hj)) (hfit:=by simp;omega) ?_
    refine AB3 ?_;refine Z28 ?_
    rw [U0 (x:=(F (i+k)+dig a i*dig b k % 4294967296+c % 4294967296)) (by have:=H9 (Bq a i) (Bq b k);have:=hm.dg (i+k);have:=hm.c2;omega)]
    refine Z0 ?_
    first|rw [U0 (x:=dig a i*dig b k) (H9 (Bq a i) (Bq b k)).2]|rw [AEb hz]
    refine A4 (h:=Ev) (hr:=?_)
    refine Z0 ?_
    rw [U0 (x:=c) (by have:=H9 (Bq a i) (Bq b k);have:=hm.dg (i+k);have:=hm.c2;omega)]
    refine A4 (h:=Ev) (hr:=?_)
    rw [s9 (by have:=H9 (Bq a i) (Bq b k);have:=hm.dg (i+k);have:=hm.c2;omega)]
    refine A4 ?_;refine wg ?_;refine N3 ?_;refine wg ?_
    refine B5 (k+1,_,_) (hm.step (by omega)) (by show 5-(i+(k+1))<5-(i+k);omega) (Bx rfl)
   have hk2:2≤k:=by simp at ht30;omega
   have hz:dig a i*dig b k=0:=by rw [sg hb hk2,Nat.mul_zero]
   refine jt ?_
   first|rw [AKm (Bq a i) (Bq b k)]|skip
   refine AIu ?_
   refine A4 (h:=Mw (hy:=Te (by omega))) (hr:=?_)
   refine Z0 ?_
   first|rw [Tz (dig a i*dig b k)]|rw [AEa hz]
   refine A4 (h:=Ev) (hr:=?_)
   refine Z0 ?_
   rw [Tz c]
   refine A4 (h:=Ev) (hr:=?_)
   refine A4 ?_;refine AB3 ?_;refine Eg ?_
   rw [s9 (by have:=H9 (Bq a i) (Bq b k);have:=hm.dg (i+k);have:=hm.c2;omega)]
   refine Z86 ?_
   rw [Tz (F (i+k)+dig a i*dig b k % 4294967296+c % 4294967296)]
   refine AIt ?_
   refine My jS (hput:=co (g:=sd F (i+k) ((F (i+k)+dig a i*dig b k % 4294967296+c % 4294967296) % 4294967296)) (by omega) (if_pos rfl) (fun j hj=>if_neg hj)) (hfit:=by simp;omega) ?_
   refine AB3 ?_;refine Z28 ?_
   rw [U0 (x:=(F (i+k)+dig a i*dig b k % 4294967296+c % 4294967296)) (by have:=H9 (Bq a i) (Bq b k);have:=hm.dg (i+k);have:=hm.c2;omega)]
   refine Z0 ?_
   first|rw [U0 (x:=dig a i*dig b k) (H9 (Bq a i) (Bq b k)).2]|rw [AEb hz]
   refine A4 (h:=Ev) (hr:=?_)
   refine Z0 ?_
   rw [U0 (x:=c) (by have:=H9 (Bq a i) (Bq b k);have:=hm.dg (i+k);have:=hm.c2;omega)]
   refine A4 (h:=Ev) (hr:=?_)
   rw [s9 (by have:=H9 (Bq a i) (Bq b k);have:=hm.dg (i+k);have:=hm.c2;omega)]
   refine A4 ?_;refine wg ?_;refine N3 ?_;refine wg ?_
   refine B5 (k+1,_,_) (hm.step (by omega)) (by show 5-(i+(k+1))<5-(i+k);omega) (Bx rfl)
  have hkc:2≤k∧c=0:=by simp at ht26;omega
  obtain ⟨hk2,hc0⟩:=hkc
  subst hc0
  refine Z36 ?_;refine K.lpE ?_;refine N3 ?_;refine A2 [2,3,4,5,6] ?_
  refine B5 (i+1,F) ⟨hi,hm.next hb hk2⟩ (by show 2-(i+1)<2-i;omega) (Bx rfl)
 have hie:i=2:=by have:=hx.1;simp at ht18;omega
 have hF:=MulAt.done (hie ▸ hx.2) ha
 refine Z52 ?_;refine dv ?_;refine Z27 ?_;exact A8 (Ai (Az jA jS)) ⟨by rw [hF 0 (by decide),hF 1 (by decide),hF 2 (by decide),hF 3 (by decide),hF 4 (by decide)],rfl⟩

/-- A wide number as a number of 64 bits. -/
def E1 (s:Bool) (m:Nat):Int×Int:=if (s&&decide (m≤9223372036854775808))=true then (-(m:Int),0) else if ((!s)&&decide (m≤9223372036854775807))=true then ((m:Int),0) else (0,4)
def H6 (s:Bool) (m:Nat):Int:=if s then -(m:Int) else m
theorem Jq (s:Bool) (m:Nat):E1 s m=if -9223372036854775808≤H6 s m∧H6 s m≤9223372036854775807 then (H6 s m,0) else (0,4):=by
 unfold E1 H6
 cases s
 ·simp only [Dy,Cj,Cw,Af,if_false]
  by_cases h:m≤9223372036854775807
  ·rw [if_pos (by simpa using h),if_pos ⟨by omega,by omega⟩]
  rw [if_neg (by simpa using h),if_neg (by omega)]
 simp only [Cw,Bn,Dy,Af,if_false,if_true]
 by_cases h:m≤9223372036854775808
 ·rw [if_pos (by simpa using h),if_pos ⟨by omega,by omega⟩]
 rw [if_neg (by simpa using h),if_neg (by omega)]
theorem Wz {x y:Nat} (hx:x<4294967296) (hy:y<4294967296):IntKind.u64.wrap (IntKind.u64.wrap ((y:Int)*4294967296)+(x:Int))=((x+4294967296*y:Nat):Int):=by
 simp only [IntKind.wrap_u64];omega
theorem sh {m:Nat} (hm:m<B32 ^ 5) (h:(decide (0<((dig m 2+dig m 3+dig m 4:Nat):Int)) || decide (4294967296≤((dig m 1:Nat):Int)))=true):18446744073709551616≤m:=by
 rcases Bf m 18446744073709551616 with h1|h1
 ·exfalso
  have e2:dig m 2=0:=Er (Cc h1 (by decide))
  have e3:dig m 3=0:=Er (Cc h1 (by decide))
  have e4:dig m 4=0:=Er (Cc h1 (by decide))
  have:=Bq m 1
  rw [e2,e3,e4] at h
  simp at h
  omega
 exact h1
theorem si {m:Nat} (hm:m<B32 ^ 5) (h:(decide (0<((dig m 2+dig m 3+dig m 4:Nat):Int)) || decide (4294967296≤((dig m 1:Nat):Int)))=false):dig m 0+4294967296*dig m 1=m:=by
 simp only [Cv,decide_eq_false_iff_not] at h
 have h2:dig m 2=0:=by omega
 have h3:dig m 3=0:=by omega
 have h4:dig m 4=0:=by omega
 have e:=nr (F:=dig m) (fun j=>Bq m j)
 have m0:=Nv m 4294967296
 have m1:=Nv (m / 4294967296) 4294967296
 unfold dig at *
 simp only [B32,Nat.reducePow,Nat.div_one,Nat.pow_zero,Nat.pow_one] at *
 omega
theorem ACi {s:Bool} {m:Nat} (h:18446744073709551616≤m):E1 s m=(0,4):=by
 unfold E1
 rw [if_neg (by simp;omega),if_neg (by simp;omega)]
theorem AKn {u:Nat} (h:u≤9223372036854775808):IntKind.i64.wrap (IntKind.u64.wrap (0-(u:Int))) = -(u:Int):=by
 simp only [IntKind.wrap_u64,IntKind.wrap_i64];omega
theorem AKo {u:Nat} (h:u≤9223372036854775807):IntKind.i64.wrap (u:Int)=(u:Int):=by
 simp only [IntKind.wrap_i64];omega
theorem c89 (s:Bool) (m:Nat) (hm:m<B32 ^ 5) (Hp:List AObj):AFun Tryz.prog 89 [.agg (wF s (dig m))] Hp (.tup [A5 (E1 s m).1,A5 (E1 s m).2]):=by
 refine Ah [.tmp 2,.tmp 3] [0] Tryz.func89 Tryz.ntmps89 (fun d=>?_)
 refine Z13 ?_;refine A2 [1] ?_;refine Z2 ?_;refine Va (1) jU Tryz.sizeOf97 (by decide) (hoff:=Qs (by decide)) ?_;refine Z11 ?_;refine Va (0) jU Tryz.sizeOf97 (by decide) (hoff:=Qs (by decide)) ?_;refine A4 ?_
 refine A4 (h:=Ev) (hr:=?_)
 rw [Wz (Bq m 0) (Bq m 1)]
 refine A4 ?_;refine A2 [1,4] ?_;refine Z23 ?_;refine Va (2) jU Tryz.sizeOf97 (by decide) (hoff:=Qs (by decide)) ?_;refine Z0 ?_;refine Va (3) jU Tryz.sizeOf97 (by decide) (hoff:=Qs (by decide)) ?_;refine A4 ?_
 refine A4 (h:=Ev) (hr:=?_)
 refine A4 ?_;refine Va (4) jU Tryz.sizeOf97 (by decide) (hoff:=Qs (by decide)) ?_;refine A4 ?_
 refine A4 (h:=Ev) (hr:=?_)
 rw [s9 (by have:=Bq m 2;have:=Bq m 3;have:=Bq m 4;omega)]
 refine N4 ?_;refine G.indexArrRo (1) jU Tryz.sizeOf97 (by decide) (hoff:=Qs (by decide)) ?_;refine Qa ?_;refine A2 [1,4,30] ?_
 refine A3 (fun ht30=>?_) (fun ht30=>?_)
 ·have hw:=ACi (s:=s) (sh hm ht30)
  refine Z1 ?_;exact AEu
 have hu:=si hm ht30
 rw [hu]
 refine L2 ?_;refine Qa ?_;refine A2 [1,4,36] ?_
 refine A3 (fun ht36=>?_) (fun ht36=>?_)
 ·have hw:E1 s m=(-(m:Int),0):=if_pos (by simp at ht36 ⊢;exact ⟨ht36.1,by omega⟩)
  refine Z2 ?_
  refine A4 (h:=Iw) (hr:=?_)
  refine A4 ?_
  rw [AKn (by simp at ht36;omega)]
  refine Z0 ?_;exact AEu
 refine bj ?_;refine Z46 ?_;refine A4 ?_;refine A2 [4,46] ?_
 refine A3 (fun ht46=>?_) (fun ht46=>?_)
 ·have hw:E1 s m=((m:Int),0):=by
   unfold E1
   rw [if_neg (by simp at ht46 ⊢;simp [ht46.1]),if_pos (by simp at ht46 ⊢;exact ⟨ht46.1,by omega⟩)]
  refine Z1 ?_
  rw [AKo (by simp at ht46;omega)]
  refine Z0 ?_;exact AEu
 have hw:E1 s m=(0,4):=by
  unfold E1
  rw [if_neg (by simp at ht36 ⊢;intro hs;have:=ht36 hs;omega),if_neg (by simp at ht46 ⊢;intro hs;have:=ht46 hs;omega)]
 refine Z88 ?_;refine Z65 ?_;exact A8 (B4 A6 A6) ⟨by rw [hw],rfl⟩

/-- ref16.num -/
def Zg (s:Bool) (m:Nat):Rs:=if ((E1 s m).2 != 0)=true then (noV,(E1 s m).2) else (⟨1,(E1 s m).1,[]⟩,0)
theorem c54 (s:Bool) (m:Nat) (hm:m<B32 ^ 5) (Hp:List AObj):AFun Tryz.prog 54 [.agg (wF s (dig m))] Hp (Nk (Zg s m)):=by
 refine Ah [.cell 2 24,.tmp 3] [0] Tryz.func54 Tryz.ntmps54 (fun d=>?_)
 refine Z2 ?_;refine Z83 ?_;refine A2 [1,2] ?_;refine Z2 ?_;refine A7 Tryz.call89 (c89 s m hm _) ?_;refine Z86 ?_;refine A2 [2,4,5] ?_;refine Z8 ?_;refine A2 [2,4,5,12] ?_
 refine A3 (fun ht12=>?_) (fun ht12=>?_)
 ·have hw:Zg s m=(noV,(E1 s m).2):=if_pos ht12
  refine Z25 ?_;refine A4 ?_;refine Z7 ?_;refine Z54 ?_;exact AB1
 have hw:Zg s m=(⟨1,(E1 s m).1,[]⟩,0):=if_neg (by rw [ht12];simp)
 refine Z93 ?_;refine Xq ?_;refine jz ?_;exact AB1

theorem c52 (b:Bool) (Hp:List AObj):AFun Tryz.prog 52 [At b] Hp (B8 (D9 b)):=by
 refine Ah [.cell 2 24] [0] Tryz.func52 Tryz.ntmps52 (fun d=>?_)
 refine Z75 ?_;refine Z23 ?_;refine A2 [2,3] ?_
 refine A3 (fun ht3=>?_) (fun ht3=>?_)
 ·have hb:b=true:=ht3
  refine Z25 ?_;refine Z38 ?_;refine Ex ?_;exact AJl
 have hb:b=false:=ht3
 refine Z3 ?_;refine Z25 ?_;refine Z38 ?_;exact AJl

theorem AKp {x y:Nat} (h:x<18446744073709551616):IntKind.u64.wrap ((x:Int).tdiv (y:Int))=((x / y:Nat):Int):=by
 have:x / y≤x:=U9 x y
 rw [Ut (by omega),IntKind.wrap_u64,←Int.natCast_ediv]
 generalize x / y=z at *
 omega
theorem AKq (x y:Nat):(x:Int).tmod (y:Int)=((x % y:Nat):Int):=by
 rw [Uu (by omega),←Int.natCast_emod]
theorem ij {s:Bool} {q:Nat} (h:q<18446744073709551616):[At s,Bd (q % 4294967296:Nat),Bd (q / 4294967296:Nat),Bd 0,Bd 0,Bd 0]=wF s (dig q):=by
 have e2:dig q 2=0:=Er (Cc h (by decide))
 have e3:dig q 3=0:=Er (Cc h (by decide))
 have e4:dig q 4=0:=Er (Cc h (by decide))
 unfold wF
 rw [nq,z8,e2,e3,e4,Nw (show q / 4294967296<4294967296 by omega)]
 rfl
theorem Zh {m:Nat} (h:m<18446744073709551616):dig m 0+4294967296*dig m 1=m:=by
 rw [nq,z8]
 omega
theorem c88 (a b:Int) (a0 : -9223372036854775808≤a) (a1:a≤9223372036854775807) (b0 : -9223372036854775808≤b) (b1:b≤9223372036854775807) (hb:b≠0) (Hp:List AObj):AFun Tryz.prog 88 [A5 a,A5 b] Hp (.tup [.agg (wF (decide (a<0) != decide (b<0)) (dig (a.natAbs / b.natAbs))),.agg (wF (decide (a<0)) (dig (a.natAbs % b.natAbs)))]):=by
 have hA:a.natAbs<18446744073709551616:=by omega
 have hB:b.natAbs<18446744073709551616:=by omega
 have hB0:((b.natAbs:Nat):Int)≠0:=by omega
 have hq:(a.natAbs / b.natAbs)<18446744073709551616:=Pz (U9 _ _) hA
 have hr:(a.natAbs % b.natAbs)<18446744073709551616:=Pz (Q0 _ _) hA
 refine Ah [.cell 4 100,.cell 5 100] [0,1] Tryz.func88 Tryz.ntmps88 (fun d=>?_)
 refine Z33 ?_;refine Ks ?_;refine A2 [0,1,4,5] ?_;refine Z2 ?_;refine A7 Tryz.call56 (sc a a0 a1 _) ?_;refine A4 ?_;refine A7 Tryz.call56 (sc b b0 b1 _) ?_;refine Ks ?_;refine vp ?_;refine A2 [4,5,6,7] ?_;refine Ct [0,1,3,7,0,16,48,127,0,256,768,1792,0,4096,12288,32512,255,131071] 17 Aj (by kernel_rfl) ?_;refine An ?_;refine V9 (1) jU Tryz.sizeOf97 (by decide) ?_;refine Z34 ?_;refine V9 (0) jU Tryz.sizeOf97 (by decide) ?_;refine An ?_
 refine An (h:=Ev) (hr:=?_)
 refine An ?_;refine V9 (1) jU Tryz.sizeOf97 (by decide) ?_;refine Z34 ?_;refine V9 (0) jU Tryz.sizeOf97 (by decide) ?_;refine An ?_
 refine An (h:=Ev) (hr:=?_)
 refine Tr ?_;refine A4 ?_;refine A2 [4,5,6,7,8,9] ?_;refine Ct [0,0,3,0,0,24,7,127] 7 Aj (by kernel_rfl) ?_
 rw [Wz (Bq a.natAbs 0) (Bq a.natAbs 1),Wz (Bq b.natAbs 0) (Bq b.natAbs 1),Zh hA,Zh hB]
 refine Z10 ?_
 refine An (h:=Q.quo (h0:=fun _=>hB0)) (hr:=?_)
 refine Z10 ?_
 refine An (h:=Q.rem (h0:=fun _=>hB0)) (hr:=?_)
 refine Tr ?_;refine A4 ?_;refine A2 [4,5,6,7,10,11] ?_;refine Eg ?_
 rw [AKp hA,AKq]
 refine Z86 ?_;refine Z62 ?_;refine A2 [4,5,6,10,11,12] ?_;refine Z20 ?_
 rw [Tz (a.natAbs / b.natAbs),U0 hq]
 refine AAi ?_;refine Z7 ?_;refine AAg ?_;refine A2 [4,5,6,11,12] ?_;refine Z1 ?_;refine Z62 ?_;refine A2 [4,5,11,12,13] ?_;refine Z20 ?_
 rw [Tz (a.natAbs % b.natAbs),U0 hr]
 refine AAi ?_;refine Z7 ?_;refine AAg ?_;refine A2 [4,5,12,13] ?_
 refine Fs [0,0,1,7] [2] [.q 2 [] [],.s [] (some 0) [] []] (fun _=>Hp) (fun B=>[.cells 100 (if B 0=true then [At (decide (a<0) != decide (b<0)),Bd ((a.natAbs / b.natAbs) % 4294967296:Nat),Bd ((a.natAbs / b.natAbs) / 4294967296:Nat),Bd 0,Bd 0,Bd 0] else [At false,Bd 0,Bd 0,Bd 0,Bd 0,Bd 0]),.cells 100 [At false,Bd 0,Bd 0,Bd 0,Bd 0,Bd 0],.cells 100 (wF (decide (a<0)) (dig a.natAbs)),.cells 100 (wF (decide (b<0)) (dig b.natAbs)),.cells 100 [At (decide (a<0) != decide (b<0)),Bd ((a.natAbs / b.natAbs) % 4294967296:Nat),Bd ((a.natAbs / b.natAbs) / 4294967296:Nat),Bd 0,Bd 0,Bd 0],.cells 100 [At (decide (a<0)),Bd ((a.natAbs % b.natAbs) % 4294967296:Nat),Bd ((a.natAbs % b.natAbs) / 4294967296:Nat),Bd 0,Bd 0,Bd 0]]) Aj (by kernel_rfl) rfl rfl (fun _=>rfl) ?_
 apply Y.q
 ·intro B hT hF
  refine Z10 ?_;exact k9
 case hTF=>decide
 refine ba (u:=Hp.length) (n:=0) (t':=100) (cs:=[At false,Bd 0,Bd 0,Bd 0,Bd 0,Bd 0]) (cs':=[At (decide (a<0) != decide (b<0)),Bd ((a.natAbs / b.natAbs) % 4294967296:Nat),Bd ((a.natAbs / b.natAbs) / 4294967296:Nat),Bd 0,Bd 0,Bd 0]) Tryz.sizeOf100 (fun B hB=>⟨rfl,by simp only [hB];rfl,by simp [upd],rfl⟩) ?_
 refine F7 (tn:=[2]) (O:=[.cells 100 [At (decide (a<0) != decide (b<0)),Bd ((a.natAbs / b.natAbs) % 4294967296:Nat),Bd ((a.natAbs / b.natAbs) / 4294967296:Nat),Bd 0,Bd 0,Bd 0],.cells 100 [At false,Bd 0,Bd 0,Bd 0,Bd 0,Bd 0],.cells 100 (wF (decide (a<0)) (dig a.natAbs)),.cells 100 (wF (decide (b<0)) (dig b.natAbs)),.cells 100 [At (decide (a<0) != decide (b<0)),Bd ((a.natAbs / b.natAbs) % 4294967296:Nat),Bd ((a.natAbs / b.natAbs) / 4294967296:Nat),Bd 0,Bd 0,Bd 0],.cells 100 [At (decide (a<0)),Bd ((a.natAbs % b.natAbs) % 4294967296:Nat),Bd ((a.natAbs % b.natAbs) / 4294967296:Nat),Bd 0,Bd 0,Bd 0]]) ?_;refine F1 ?_;refine Z17 ?_;exact A8 (B4 (Az jA jS) (Az jA jS)) ⟨by rw [ij hq,ij hr],rfl⟩

/-- ref04.Before -/
def Ha (a b:Val):Bool:=if (a.kind != b.kind)=true then decide (a.kind<b.kind) else if (a.kind != 2)=true then decide (a.n<b.n) else decide (Lib.compareBytes a.s b.s<0)
theorem ACj {s t:Str} {k:Nat} (hs:k<s.length) (ht:k<t.length) (he:s[k]=t[k]):Lib.compareBytes (s.drop k) (t.drop k)=Lib.compareBytes (s.drop (k+1)) (t.drop (k+1)):=by
 rw [Gx hs,Gx ht,Lib.compareBytes,he,if_neg (by simp),if_neg (by simp)]
theorem ACk {s t:Str} {k:Nat} (hs:k<s.length) (ht:k<t.length) (he:s[k]≠t[k]):decide (Lib.compareBytes (s.drop k) (t.drop k)<0)=decide ((s[k].toNat:Int)<(t[k].toNat:Int)):=by
 rw [Gx hs,Gx ht,Lib.compareBytes]
 have e1:s[k]<t[k]↔s[k].toNat<t[k].toNat:=Uf
 have e2:t[k]<s[k]↔t[k].toNat<s[k].toNat:=Uf
 have e3:s[k].toNat≠t[k].toNat:=fun e=>he (Je.1 e)
 by_cases h:s[k]<t[k]
 ·rw [if_pos h,decide_eq_true (show (-1:Int)<0 by decide),decide_eq_true (by have:=e1.1 h;omega)]
 have hnl:¬s[k].toNat<t[k].toNat:=fun h'=>h (e1.2 h')
 rw [if_neg h,if_pos (e2.2 (by omega)),decide_eq_false (show ¬(1:Int)<0 by decide),decide_eq_false (by omega)]
theorem AGj {s t:Str} {k:Nat} (hs:k≤s.length) (ht:k≤t.length) (h:¬(k<s.length∧k<t.length)):decide (Lib.compareBytes (s.drop k) (t.drop k)<0)=decide ((s.length:Int)<(t.length:Int)):=by
 by_cases h1:k<s.length
 ·have h2:t.length=k:=by omega
  rw [R7 (l:=t) (by omega),Gx h1]
  rw [decide_eq_false (show ¬Lib.compareBytes _ _<0 by rw [Lib.compareBytes];decide),decide_eq_false (by omega)]
 rw [R7 (l:=s) (by omega)]
 by_cases h2:k<t.length
 ·rw [Gx h2]
  rw [decide_eq_true (show Lib.compareBytes _ _<0 by rw [Lib.compareBytes];decide),decide_eq_true (by omega)]
 rw [R7 (l:=t) (by omega)]
 rw [decide_eq_false (show ¬Lib.compareBytes _ _<0 by rw [Lib.compareBytes];decide),decide_eq_false (by omega)]
theorem c85 (a b:Val) (ha:a.s.length≤1048576) (Hp:List AObj):AFun Tryz.prog 85 [B8 a,B8 b] Hp (At (Ha a b)):=by
 refine Ah [.tmp 4] [0,1] Tryz.func85 Tryz.ntmps85 (fun d=>?_)
 refine pl ?_;refine Lu ?_;refine A2 [2,3,10] ?_
 refine A3 (fun ht10=>?_) (fun ht10=>?_)
 ·have hm:Ha a b=decide (a.kind<b.kind):=if_pos ht10
  refine Z20 ?_;refine Z0 ?_;refine A2 [4] ?_;exact Z42
 have e1:¬(a.kind != b.kind)=true:=by rw [ht10];simp
 refine L2 ?_;refine A2 [2,3,18] ?_
 refine A3 (fun ht18=>?_) (fun ht18=>?_)
 ·have hm:Ha a b=decide (a.n<b.n):=by unfold Ha;rw [if_neg e1,if_pos ht18]
  refine Z20 ?_;refine Z0 ?_;refine A2 [4] ?_;exact Z42
 have hm:Ha a b=decide (Lib.compareBytes a.s b.s<0):=by unfold Ha;rw [if_neg e1,if_neg (by rw [ht18];simp)]
 refine Kq ?_;refine A2 [2,3,5] ?_
 refine Bh (α:=Nat) (fun k=>⟨63,A9 2 (.ro [A5 a.kind,A5 a.n,Ac a.s]) (A9 3 (.ro [A5 b.kind,A5 b.n,Ac b.s]) (A9 5 (A5 (k:Nat)) (fun _=>.any))),Hp,[],[],none⟩) (fun k=>k≤a.s.length∧k≤b.s.length∧Lib.compareBytes a.s b.s=Lib.compareBytes (a.s.drop k) (b.s.drop k)) (fun k=>a.s.length-k) (0) ⟨Av _,Av _,rfl⟩ (Bc rfl) rfl (fun k hx=>?_)
 refine Z48 ?_;refine Z46 ?_;refine Z90 ?_;refine A2 [2,3,5,35] ?_
 refine A3 (fun ht35=>?_) (fun ht35=>?_)
 ·have hk:k<a.s.length∧k<b.s.length:=by have h35:=ht35;simp at h35;exact h35
  refine Z53 ?_;refine Ct [0,1,0,7,0,16,0,112,255] 8 Aj (by kernel_rfl) ?_;refine Z34 ?_
  refine An (h:=El k a.s[k] (fun _=>Aa hk.1)) (hr:=?_)
  refine Z34 ?_
  refine An (h:=El k b.s[k] (fun _=>Aa hk.2)) (hr:=?_)
  refine Ee ?_;refine A4 ?_;refine A2 [2,3,5,46] ?_
  refine A3 (fun ht46=>?_) (fun ht46=>?_)
  ·have hd:a.s[k]≠b.s[k]:=fun e=>by rw [e] at ht46;simp at ht46
   refine Ct [0,1,0,7,0,16,0,112,255,511] 8 Aj (by kernel_rfl) ?_;refine Z34 ?_
   refine An (h:=El k a.s[k] (fun _=>Aa hk.1)) (hr:=?_)
   refine Z34 ?_
   refine An (h:=El k b.s[k] (fun _=>Aa hk.2)) (hr:=?_)
   refine Ee ?_;refine Z0 ?_;refine py ?_;exact A8 (Ai A6) ⟨by rw [hm,hx.2.2,ACk hk.1 hk.2 hd],rfl⟩
  have hd:a.s[k]=b.s[k]:=Je.1 (by have h46:((a.s[k].toNat:Nat):Int)=(b.s[k].toNat:Int):=(by simpa using ht46);omega)
  refine Z96 ?_;refine A2 [2,3,5] ?_;exact B5 (k+1) ⟨hk.1,hk.2,by rw [hx.2.2];exact ACj hk.1 hk.2 hd⟩ (by omega) (Bx rfl)
 have hk:¬(k<a.s.length∧k<b.s.length):=by have h35:=ht35;simp at h35;omega
 refine Z52 ?_;refine Z20 ?_;refine Z61 ?_;refine Z27 ?_;exact A8 (Ai A6) ⟨by rw [hm,hx.2.2,AGj hx.1 hx.2.1 hk],rfl⟩

set_option maxRecDepth 8000
/-! The reference's Bin is the program's. -/
theorem AGk (t:Str) (c:Int):(Ba t==3)=(Ea t c).2:=by
 unfold Ea
 by_cases h1:(t==[61])=true
 ·rw [if_pos h1,eq_of_beq h1];kernel_rfl
 rw [if_neg h1]
 by_cases h2:(t==[33,61])=true
 ·rw [if_pos h2,eq_of_beq h2];kernel_rfl
 rw [if_neg h2]
 by_cases h3:(t==[60])=true
 ·rw [if_pos h3,eq_of_beq h3];kernel_rfl
 rw [if_neg h3]
 by_cases h4:(t==[60,61])=true
 ·rw [if_pos h4,eq_of_beq h4];kernel_rfl
 rw [if_neg h4]
 by_cases h5:(t==[62])=true
 ·rw [if_pos h5,eq_of_beq h5];kernel_rfl
 rw [if_neg h5]
 by_cases h6:(t==[62,61])=true
 ·rw [if_pos h6,eq_of_beq h6];kernel_rfl
 rw [if_neg h6]
 show (Ba t==3)=false
 cases h:Ba t==3 with
 | false=>rfl
 | true =>
  exfalso
  have h':Ba t=3:=by simpa using h
  unfold Ba at h'
  split at h'
  ·rename_i i hi
   have e:i=3:=by omega
   subst e
   obtain ⟨hl,hp,_⟩:=R9.1 hi
   have hm:t∈levels[3]:=by simpa using hp
   have:t∈([[61],[33,61],[60],[60,61],[62],[62,61]]:List Str):=hm
   simp only [By,Fv,or_false] at this
   rcases this with rfl|rfl|rfl|rfl|rfl|rfl
   ·exact h1 rfl
   ·exact h2 rfl
   ·exact h3 rfl
   ·exact h4 rfl
   ·exact h5 rfl
   exact h6 rfl
  cases h'
def cp (lt gt:Bool) (t:Str):Bool:=if t==[61] then !lt && !gt else if t==[33,61] then lt || gt else if t==[60] then lt else if t==[60,61] then !gt else if t==[62] then gt else !lt
theorem ACl {t:Str} {c:Int} (h:(Ea t c).2=true):(Ea t c).1=cp (decide (c<0)) (decide (0<c)) t:=by
 unfold Ea at h ⊢
 unfold cp
 split
 ·rw [Js];simp;omega
 rename_i h1
 rw [if_neg h1] at h
 split
 ·rw [Js];simp;omega
 rename_i h2
 rw [if_neg h2] at h
 split
 ·rfl
 rename_i h3
 rw [if_neg h3] at h
 split
 ·rw [Js];simp
 rename_i h4
 rw [if_neg h4] at h
 split
 ·rfl
 rename_i h5
 rw [if_neg h5] at h
 split
 ·rw [Js];simp
 rename_i h6
 rw [if_neg h6] at h
 cases h
theorem ns:∀s t:Str,Lib.compareBytes t s = -Lib.compareBytes s t
 | [],[]=>rfl
 | [],b::r=>rfl
 | a::r,[]=>rfl
 | a::r,b::q=>by
  rw [Lib.compareBytes,Lib.compareBytes]
  by_cases h1:a<b
  ·rw [if_neg (by have:=Uf.1 h1;rw [Uf];omega),if_pos h1,if_pos h1];rfl
  rw [if_neg h1,if_neg h1]
  by_cases h2:b<a
  ·rw [if_pos h2,if_pos h2]
  rw [if_neg h2,if_neg h2];exact ns r q
theorem za {a b:Val} (ha:Bu a=true) (hb:Bu b=true) (hk:a.kind=b.kind):Pl a b=if a.kind=2 then Lib.compareBytes a.s b.s else Jj a.n b.n:=by
 obtain ⟨k,n,s⟩:=a
 obtain ⟨k',n',s'⟩:=b
 simp only at hk
 subst hk
 unfold Pl
 rw [ha,hb,if_neg (by simp)]
 have e0:Jj k k=0:=by simp [Jj]
 simp only [orI,e0]
 unfold Bu at ha hb
 simp only at ha hb
 by_cases h2:k=2
 ·subst h2
  simp at ha hb
  rw [ha.1,hb.1]
  simp [Jj]
  intro h;exact h.symm
 have hs:s=[]∧s'=[]:=by
  split at ha
  ·rename_i h;rw [if_pos h] at hb;simp at ha hb;exact ⟨ha.2,hb.2⟩
  rename_i h
  rw [if_neg h] at hb
  split at ha
  ·rename_i h;rw [if_pos h] at hb;simp at ha hb;exact ⟨ha,hb⟩
  rename_i h
  rw [if_neg h] at hb
  rw [if_neg (by simpa using h2)] at ha hb
  simp at ha hb
  exact ⟨ha.1.1.2,hb.1.1.2⟩
 rw [hs.1,hs.2,if_neg h2]
 simp [Lib.compareBytes]
 intro h;exact h.symm
theorem sj {a b:Val} (ha:Bu a=true) (hb:Bu b=true) (hk:a.kind=b.kind):Ha a b=decide (Pl a b<0):=by
 rw [za ha hb hk]
 unfold Ha
 rw [if_neg (by simp [hk])]
 by_cases h2:a.kind=2
 ·rw [if_pos h2,if_neg (by simp [h2])]
 rw [if_neg h2,if_pos (by simp [h2])]
 unfold Jj
 rw [decide_eq_decide]
 split
 ·rename_i h;simp at h;omega
 rename_i h
 simp at h
 split<;>omega
theorem sk {a b:Val} (ha:Bu a=true) (hb:Bu b=true) (hk:a.kind=b.kind):Ha b a=decide (0<Pl a b):=by
 rw [za ha hb hk]
 unfold Ha
 rw [if_neg (by simp [hk])]
 by_cases h2:a.kind=2
 ·rw [if_pos h2,if_neg (by rw [←hk];simp [h2]),ns a.s b.s,decide_eq_decide]
  omega
 rw [if_neg h2,if_pos (by rw [←hk];simp [h2])]
 unfold Jj
 rw [decide_eq_decide]
 split
 ·rename_i h;simp at h;omega
 rename_i h
 simp at h
 split
 ·rename_i h';simp at h';omega
 rename_i h';simp at h';omega
theorem ACm {t:Str} {a b:Val} (ha:Bu a=true) (hb:Bu b=true) (h3:(Ba t==3)=true) (hk:(a.kind != b.kind)=false):H0 t a b=(D9 (cp (Ha a b) (Ha b a) t),0):=by
 have hk':a.kind=b.kind:=by simpa using hk
 rw [sj ha hb hk',sk ha hb hk']
 have h:=h3
 rw [AGk t (Pl a b)] at h
 unfold H0
 rw [if_pos h,if_neg (by rw [hk];simp),ACl h]
theorem zb {t:Str} {a b:Val} (h3:(Ba t==3)=true) (hk:(a.kind != b.kind)=true):H0 t a b=(noV,10):=by
 rw [AGk t (Pl a b)] at h3
 unfold H0
 rw [if_pos h3,if_pos hk]
 rfl
theorem X0 {t:Str} {a b:Val} (h3:(Ba t==3)=false):H0 t a b=if t==[38] then Hj a b else if !Bl [a,b] [1,1] then Ch 10 else Eo (Dt t a.n b.n):=by
 rw [AGk t (Pl a b)] at h3
 unfold H0
 rw [if_neg (by rw [h3];simp)]
/-! Numbers. -/
theorem Jr (s:Bool) (m:Nat):Zg s m=Eo (E1 s m):=rfl
section
variable {a b:Int}
theorem ik (s:Bool) (m:Nat) (s':Bool) (m':Nat):H6 (Qt s m s' m').1 (Qt s m s' m').2=H6 s m+H6 s' m':=by
 unfold Qt hiW loW H6
 by_cases h:m<m'
 ·cases s<;>cases s'<;>simp [h]<;>omega
 cases s<;>cases s'<;>simp [h]<;>omega
theorem Nn (a:Int):H6 (decide (a<0)) a.natAbs=a:=by
 unfold H6
 by_cases h:a<0
 ·rw [if_pos (by simpa using h)];omega
 rw [if_neg (by simpa using h)];omega
theorem il (s:Bool) (m:Nat):H6 (!s) m = -H6 s m:=by
 unfold H6
 cases s<;>simp
theorem sm (a0 : -9223372036854775808≤a) (a1:a≤9223372036854775807) (b0 : -9223372036854775808≤b) (b1:b≤9223372036854775807):E1 (Qt (decide (a<0)) a.natAbs (decide (b<0)) b.natAbs).1 (Qt (decide (a<0)) a.natAbs (decide (b<0)) b.natAbs).2=Wl a b:=by
 rw [Jq,ik,Nn,Nn,AC9 a0 a1 b0 b1]
theorem so (a0 : -9223372036854775808≤a) (a1:a≤9223372036854775807) (b0 : -9223372036854775808≤b) (b1:b≤9223372036854775807):E1 (Qt (decide (a<0)) a.natAbs (!decide (b<0)) b.natAbs).1 (Qt (decide (a<0)) a.natAbs (!decide (b<0)) b.natAbs).2=Ji a b:=by
 rw [Jq,ik,il,Nn,Nn,nl a0 a1 b0 b1,Int.sub_eq_add_neg]
theorem zc:H6 (decide (a<0) != decide (b<0)) (a.natAbs*b.natAbs)=a*b:=by
 have h1:=Int.natAbs_mul a b
 unfold H6
 rw [←h1]
 by_cases ha:a<0<;>by_cases hb:b<0
 ·have:=Int.mul_pos_of_neg_of_neg ha hb
  simp [ha,hb];omega
 ·have:a*b≤0:=Int.mul_nonpos_of_nonpos_of_nonneg (by omega) (by omega)
  simp [ha,hb];omega
 ·have:a*b≤0:=Int.mul_nonpos_of_nonneg_of_nonpos (by omega) (by omega)
  simp [ha,hb];omega
 have:0≤a*b:=Int.mul_nonneg (by omega) (by omega)
 simp [ha,hb];omega
theorem sq (a0 : -9223372036854775808≤a) (a1:a≤9223372036854775807) (b0 : -9223372036854775808≤b) (b1:b≤9223372036854775807):E1 (decide (a<0) != decide (b<0)) (a.natAbs*b.natAbs)=Pj a b:=by
 rw [Jq,zc,ACa a0 a1 b0 b1]
end
/-! Divided. -/
theorem Od (a:Int):(a<0∧a = -(a.natAbs:Int))∨(¬a<0∧a=(a.natAbs:Int)):=by omega
theorem im (a b:Int):H6 (decide (a<0) != decide (b<0)) (a.natAbs / b.natAbs)=a.tdiv b:=by
 have key:((a.natAbs / b.natAbs:Nat):Int)=(a.natAbs:Int).tdiv (b.natAbs:Int):=by
  rw [Ut (by omega),Int.natCast_ediv]
 unfold H6
 rcases Od a with ⟨ha,ea⟩|⟨ha,ea⟩<;>rcases Od b with ⟨hb,eb⟩|⟨hb,eb⟩
 ·rw [show (decide (a<0) != decide (b<0))=false by simp [ha,hb]]
  conv=>rhs;rw [ea,eb,Int.neg_tdiv,Int.tdiv_neg,Int.neg_neg]
  exact key
 ·rw [show (decide (a<0) != decide (b<0))=true by simp [ha,hb]]
  conv=>rhs;rw [ea,eb,Int.neg_tdiv]
  rw [if_pos rfl,key]
 ·rw [show (decide (a<0) != decide (b<0))=true by simp [ha,hb]]
  conv=>rhs;rw [ea,eb,Int.tdiv_neg]
  rw [if_pos rfl,key]
 rw [show (decide (a<0) != decide (b<0))=false by simp [ha,hb]]
 conv=>rhs;rw [ea,eb]
 exact key
theorem io (a b:Int):H6 (decide (a<0)) (a.natAbs % b.natAbs)=a.tmod b:=by
 have key:((a.natAbs % b.natAbs:Nat):Int)=(a.natAbs:Int).tmod (b.natAbs:Int):=by
  rw [Uu (by omega),Int.natCast_emod]
 unfold H6
 rcases Od a with ⟨ha,ea⟩|⟨ha,ea⟩<;>rcases Od b with ⟨hb,eb⟩|⟨hb,eb⟩
 ·rw [show decide (a<0)=true by simp [ha]]
  conv=>rhs;rw [ea,eb,j3,j4]
  rw [if_pos rfl,key]
 ·rw [show decide (a<0)=true by simp [ha]]
  conv=>rhs;rw [ea,eb,j3]
  rw [if_pos rfl,key]
 ·rw [show decide (a<0)=false by simp [ha]]
  conv=>rhs;rw [ea,eb,j4]
  exact key
 rw [show decide (a<0)=false by simp [ha]]
 conv=>rhs;rw [ea,eb]
 exact key
section
variable {a b:Int}
theorem sr (a0 : -9223372036854775808≤a) (a1:a≤9223372036854775807) (b0 : -9223372036854775808≤b) (b1:b≤9223372036854775807) (hb:(b==0)=false):E1 (decide (a<0) != decide (b<0)) (a.natAbs / b.natAbs)=Ty a b:=by
 have hb':b≠0:=by simpa using hb
 have e1:Ty a b=if ((a == -9223372036854775808)&&(b == -1))=true then (0,4) else (IntKind.i64.wrap (a.tdiv b),0):=by
  unfold Ty
  rw [if_neg (by rw [hb];simp)]
 rw [Jq,im,e1]
 by_cases h:a = -9223372036854775808∧b = -1
 ·obtain ⟨rfl,rfl⟩:=h
  rfl
 have e2:¬((a == -9223372036854775808)&&(b == -1))=true:=by simpa using h
 rw [if_neg e2]
 have hw:=im a b
 have hle:a.natAbs / b.natAbs≤a.natAbs:=U9 _ _
 have h2:2≤b.natAbs→a.natAbs / b.natAbs≤a.natAbs / 2:=fun h=>Nat.div_le_div_left h (by decide)
 have hr : -9223372036854775808≤a.tdiv b∧a.tdiv b≤9223372036854775807:=by
  unfold H6 at hw
  generalize a.tdiv b=q at *
  generalize a.natAbs / b.natAbs=z at *
  by_cases ha:a<0<;>by_cases hbn:b<0<;>simp [ha,hbn] at hw<;>omega
 rw [if_pos hr]
 congr 1
 rw [IntKind.wrap_i64]
 omega
theorem su (a0 : -9223372036854775808≤a) (a1:a≤9223372036854775807) (b0 : -9223372036854775808≤b) (b1:b≤9223372036854775807) (hb:(b==0)=false):E1 (decide (a<0)) (a.natAbs % b.natAbs)=Pk a b:=by
 have hb':b≠0:=by simpa using hb
 have e1:Pk a b=if (b == -1)=true then (0,0) else (IntKind.i64.wrap (a.tmod b),0):=by
  unfold Pk
  rw [if_neg (by rw [hb];simp)]
 rw [Jq,io,e1]
 have hw:=io a b
 have hlt:a.natAbs % b.natAbs<b.natAbs:=Hr _ (by omega)
 have hr : -9223372036854775808≤a.tmod b∧a.tmod b≤9223372036854775807:=by
  unfold H6 at hw
  generalize a.tmod b=q at *
  generalize a.natAbs % b.natAbs=z at *
  by_cases ha:a<0<;>simp [ha] at hw<;>omega
 rw [if_pos hr]
 by_cases h:b = -1
 ·rw [if_pos (by simp [h]),h]
  congr 1
  simp [j4]
 rw [if_neg (by simpa using h)]
 congr 1
 rw [IntKind.wrap_i64]
 omega
end
theorem zd {a b:Int} {s s':Bool} (a0 : -9223372036854775808≤a) (a1:a≤9223372036854775807) (b0 : -9223372036854775808≤b) (b1:b≤9223372036854775807):(Qt s a.natAbs s' b.natAbs).2<B32 ^ 5:=by
 have:(Qt s a.natAbs s' b.natAbs).2≤a.natAbs+b.natAbs:=by
  unfold Qt hiW loW
  split
  ·exact Ap _
  simp only
  split<;>simp only<;>omega
 have h2:(36893488147419103232:Nat)≤B32 ^ 5:=by decide
 omega
end Go.SX.Nb
namespace Go.SX
variable [GI:GlobInv]
open Classical
section
variable {P:Program} {d:Nat} {st:St} {ty:TypeId} {pos:String} {aft:Array Edge} {gd:Option (Nat×Bool)}
/-- A variable of its own, not laid yet. -/
theorem AOp.allocP {t:TypeId} {z:Value} {k s:Nat} (hz:∀w,(zeroValue t).run P w=.ok z w) (hk:z.cells.size=k) (hs:s<st.sz):
  AOp P d ⟨some s,.alloc t,ty,pos,aft,gd⟩ st (·=st.set s (.cellp k)):=by
 subst hk
 intro G a w h Q'
 let G':Gh:={ G with tag:=fun b o=>if b=w.heap.size∧o<z.cells.size then .tail (.slot d s) else G.tag b o }
 have hfree:∀o,G.tag w.heap.size o=.free:=fun o=>Gm h.tags _ o (Ap _)
 have hne:∀b o,G.tag b o≠.free→¬(b=w.heap.size∧o<z.cells.size):=fun b o hb hc=>by rw [hc.1] at hb;exact hb (hfree o)
 have hkeep:∀b o,G.tag b o≠.free→G'.tag b o=G.tag b o:=fun b o hb=>by simp only [G'];rw [if_neg (hne b o hb)]
 have hcell:∀b o,G.tag b o≠.free→(w.alloc (.cells z.cells t)).cell? ⟨b,o,none⟩=w.cell? ⟨b,o,none⟩:=fun b o hb=>by
  refine World.cell?_alloc_old _ _ _ ?_
  show b≠w.heap.size
  rintro rfl
  exact hb (hfree o)
 have T:Turn G w G' (w.alloc (.cells z.cells t)):=by
  refine ⟨fun b o hb=>⟨by rw [hkeep b o (by rw [hb];simp)];exact hb,hcell b o (by rw [hb];simp)⟩,fun b o L hb=>by rw [hkeep b o (by rw [hb];simp)];exact hb,fun b o i hb=>by rw [hkeep b o (by rw [hb];simp)];exact hb,Ap _,fun o ho=>rfl,rfl,rfl,rfl,by simp,an _ (fun b o hb=>.inl (by simp only [G'];rw [if_neg (by omega)])) (fun i hi=>.inl ⟨hi,rfl⟩)⟩
 have h1:StRel d G' st a (w.alloc (.cells z.cells t)):=by
  refine h.turn (U:=st.up) (O:=st.own) T ⟨fun i x hx=>T.objRel ?_ ?_ (h.heap.obj i x hx) (fun b hb=>?_),h.heap.n,h.heap.inj⟩ rfl h.defsAt ⟨fun b o hb=>?_,fun b o i hb=>?_,fun b o L hb=>?_,h.tags.globKeep T.old⟩ h.low
  ·rw [h.heap.n];exact (Ad.1 hx).1
  ·have:=(h.heap.obj i x hx).blt
   show (w.heap.push _)[G.blk i]? = _
   rw [Oo,if_neg (by omega)]
  ·have:=hb.lt
   show (w.heap.push _)[b]? = _
   rw [Oo,if_neg (by omega)]
  ·simp only [G'] at hb
   split at hb
   ·rename_i hc
    obtain ⟨rfl,hlt⟩:=hc
    exact ⟨z.cells[o],by rw [World.cell?_alloc_new];exact Eb hlt⟩
   rw [hcell b o hb]
   exact h.tags.ex b o hb
  ·simp only [G'] at hb
   split at hb
   ·cases hb
   rw [World.frozen?_alloc_old]
   ·exact h.tags.obj b o i hb
   show b≠w.heap.size
   rintro rfl
   rw [hfree] at hb;cases hb
  simp only [G'] at hb
  split at hb
  ·rename_i hc
   obtain ⟨rfl,hlt⟩:=hc
   exact World.frozen?_alloc_new _ _ _ _
  rw [World.frozen?_alloc_old]
  ·exact h.tags.tail b o L hb
  show b≠w.heap.size
  rintro rfl
  rw [hfree] at hb;cases hb
 have hrun:(execOp a.eval (⟨some s,.alloc t,ty,pos,aft,gd⟩:Oper)).run P w=.ok (.value (.pointer (some ⟨w.heap.size,0,none⟩))) (w.alloc (.cells z.cells t)):=by
  simp [execOp,Instr.alloc,hz,newVar,newRow]
 refine Df (by intro c h;cases h) hrun ⟨G',_,h1.put (s:=s) (y:=.cellp z.cells.size) hs ?_,T.keep d,rfl,rfl,rfl,rfl⟩
 exact .cellp _ _ _ ⟨_,rfl,fun o ho=>by simp [G',ho]⟩

/-- It is laid: from now on nobody writes it. -/
theorem AOp.storeP {t:TypeId} {x:Operand} {r k:Nat} {y:AV} (hsz:∀w,(sizeOf t).run P w=.ok k w) (hf:st.fr r=.cellp k) (hx:st.ev x=y) (hk:y.cells.length=k) (hk0:0<k) (h1:y.cells.all AV.one=true):
  AOp P d ⟨none,.store t (.tmp r) x,ty,pos,aft,gd⟩ st (·=st.set r (.ro y.cells)):=by
 intro G a w h Q'
 have hone:∀c∈y.cells,c.one=true:=fun c hc=>B1.1 h1 c hc
 obtain ⟨hc,hcc⟩:=(hx ▸ h.eval x).cells hone
 have hsl:=h.slots r
 rw [hf] at hsl
 generalize hv:a.tmps.getD r undef=v at hsl
 cases hsl with
 | cellp l k b ho =>
  obtain ⟨L,hL,ht⟩:=ho
  injection hL with hL
  subst hL
  let us:=(a.eval x).cells.toList
  have hul:us.length=k:=by simp only [us,Array.length_toList];omega
  have huone:∀u∈us,u.oneCell'=true:=fun u hu=>by
   obtain ⟨j,hj⟩:=Cg hu
   have hj':(a.eval x).cells[j]? = some u:=by rw [←R4];exact hj
   have hlt:j<y.cells.length:=by rw [←hc];exact (Mh.1 hj').1
   exact (hcc j _ u (Aa hlt) hj').one (hone _ (Br hlt))
  have hrun0:=run_storeCells_cells (P:=P) b 0 us 0 w (fun j hj=>by
    obtain ⟨u,hu⟩:=h.tags.ex b j (by rw [ht j (by omega)];simp)
    simp only [Nat.add_zero,Bm];rw [hu];rfl) (fun j hj=>by simpa using h.tags.tail _ _ _ (ht j (by omega))) huone
  simp only [Nat.add_zero] at hrun0
  let W:=w.setCells b 0 us
  let G':Gh:={ G with tag:=fun b' o=>if b'=b∧o<k then .fix else G.tag b' o }
  have htag:∀b' o,G.tag b' o≠.tail (.slot d r)→G'.tag b' o=G.tag b' o:=fun b' o hb=>by
   simp only [G']
   rw [if_neg]
   rintro ⟨rfl,ho⟩
   exact hb (ht o ho)
  have hout:∀b' o,¬(b'=b∧o<k)→W.cell? ⟨b',o,none⟩=w.cell? ⟨b',o,none⟩:=fun b' o hn =>
   World.cell?_setCells_out _ us 0 w ⟨b',o,none⟩ (fun hb _=>by
    simp only at hb ⊢
    exact .inr (Ua fun h''=>hn ⟨hb,by omega⟩))
  have hcell:∀b' o,G.tag b' o≠.tail (.slot d r)→W.cell? ⟨b',o,none⟩=w.cell? ⟨b',o,none⟩:=fun b' o hb=>hout b' o (fun hn=>hb (by rw [hn.1];exact ht o hn.2))
  have hnb:∀i,i<G.n→G.blk i≠b:=M9 h.heap h.tags (ht 0 hk0)
  have hheap:∀b',b'≠b→W.heap[b']? = w.heap[b']? := fun b' hb=>E7 _ _ _ _ _ hb
  have hsize:W.heap.size=w.heap.size:=E6 _ _ _ _
  have hstill:Still G w G' W:=Lk (fun b' hb'=>hheap b' (fun e=>M8 (ht 0 hk0) (e ▸ hb'))) (Jb hsize.symm) (fun b' o _=>by
   by_cases hc:b'=b∧o<k
   ·exact .inr ⟨_,by rw [hc.1];exact ht o hc.2⟩
   exact .inl (by simp only [G'];rw [if_neg hc])) (fun i hi=>.inl ⟨hi,rfl⟩)
  have hfix:∀b' o,G.tag b' o=.fix→G'.tag b' o=.fix∧W.cell? ⟨b',o,none⟩=w.cell? ⟨b',o,none⟩:=fun b' o hb=>⟨by rw [htag b' o (by rw [hb];simp)];exact hb,hcell b' o (by rw [hb];simp)⟩
  have htail:∀b' o L,L≠.slot d r→G.tag b' o=.tail L→G'.tag b' o=.tail L:=fun b' o L hL hb=>by
   rw [htag b' o (by rw [hb];intro e;injection e with e;exact hL e)];exact hb
  have hobj:∀b' o i,G.tag b' o=.obj i→G'.tag b' o=.obj i:=fun b' o i hb=>by rw [htag b' o (by rw [hb];simp)];exact hb
  have hrep:∀{l:Option Loc} {z:AV} {u:Value},l≠some (.slot d r)→Rep G w l z u→Rep G' W l z u:=fun hl hz =>
   hz.mono (G':=G') hfix (Ap _) (fun _ _=>rfl) (fun L hL b' o ht'=>htail b' o L (fun e=>hl (by rw [hL,e])) ht')
  have hkeep:Keep d G w G' W:=⟨hfix,fun b' o e s he ht'=>htail b' o _ (by rintro ⟨⟩;omega) ht',Ap _,fun _ _=>rfl,Hg _ _ _ _,Fo _ _ _ _,Ep _ _ _ _,Jb hsize.symm,hstill⟩
  have hvec:∀j u,us[j]? = some u→W.cell? ⟨b,j,none⟩=some u:=fun j u hu=>by
   have hj:=(Ad.1 hu).1
   have hex:∃u',w.cell? ⟨b,j,none⟩=some u':=h.tags.ex b j (by rw [ht j (by omega)];simp)
   obtain ⟨u',hu'⟩:=hex
   have hbk:∃vs e fz,w.heap[b]? = some (.cells vs e fz):=by
    simp only [World.cell?] at hu'
    split at hu'
    ·rename_i vs e fz hb;exact ⟨vs,e,fz,hb⟩
    cases hu'
   obtain ⟨vs,e,fz,hbk⟩:=hbk
   have hlen:0+us.length≤vs.size:=by
    rw [hul,Bm]
    rcases Bf vs.size k with h'|h'
    ·exfalso
     obtain ⟨u2,hu2⟩:=h.tags.ex b vs.size (by rw [ht _ h'];simp)
     simp [World.cell?,hbk] at hu2
    exact h'
   obtain ⟨vs',b1,b2,b3⟩:=Jw b e fz us 0 w vs hbk hlen
   have b3':=b3 j
   rw [if_pos (by omega)] at b3'
   show (w.setCells b 0 us).cell? ⟨b,j,none⟩=some u
   simp only [World.cell?,b1]
   rw [b3',Nat.sub_zero]
   exact hu
  have hst:StRel d G' (st.set r (.ro y.cells)) a W:=by
   refine ⟨h.size,fun s=>?_,⟨fun i z hz=>?_,h.heap.n,h.heap.inj⟩,h.defs,h.defsAt,h.defsNodup,h.defsGe,⟨fun b' o hb=>?_,fun b' o i hb=>?_,fun b' o L hb=>?_,h.tags.globKeep hstill⟩,h.rnd,h.low,h.top⟩
   ·show Rep G' W _ (A9 r (.ro y.cells) st.fr s) _
    unfold A9
    by_cases hs:s=r
    ·subst hs
     rw [if_pos rfl,hv]
     refine .ro _ _ ⟨b,0,none⟩ (fun j=>(a.eval x).cells.getD j undef) rfl hone (fun j c hj=>?_) (fun j c hj=>?_)
     all_goals
      have hlt:j<y.cells.length:=(Ad.1 hj).1
      have hu:(a.eval x).cells[j]? = some ((a.eval x).cells[j]'(by omega)):=Eb _
      have e1:(a.eval x).cells.getD j undef=(a.eval x).cells[j]'(by omega):=by rw [Kd,hu];rfl
      rw [e1]
     ·refine ⟨by simp only [G',Bm];rw [if_pos ⟨trivial,by omega⟩],?_⟩
      rw [Bm]
      exact hvec j _ (by simp only [us];rw [R4];exact hu)
     exact hrep (by simp) (hcc j c _ hj hu)
    rw [if_neg hs]
    exact hrep (by simp;exact fun e=>hs e) (h.slots s)
   ·have hob:=h.heap.obj i z hz
    have hi:i<G.n:=by rw [h.heap.n];exact (Ad.1 hz).1
    have hb:=hheap (G.blk i) (hnb i hi)
    cases z with
    | cells t cs =>
     obtain ⟨vs,a1,a2,a3,a4⟩:=hob
     exact ⟨vs,hb.trans a1,a2,fun j y u p q=>hrep (by simp) (a3 j y u p q),fun j hj=>hobj _ _ _ (a4 j hj)⟩
    | loop sta pd fr sz ps asg bd df =>
     obtain ⟨fn,tmps,a1,a2,a3,a4⟩:=hob
     exact ⟨fn,tmps,hb.trans a1,a2,fun s=>hrep (by simp) (a3 s),a4⟩
    | defs=>exact hb.trans hob
    | dead=>exact hb.trans hob
    | bld t e bs=>exact BldRel.turn hob rfl (fun b' o ho=>hobj b' o i ho) hb (fun b' ha=>hheap b' (fun e=>by
      have:=ha.tag h.tags (o:=0) (by rw [e,ht 0 hk0];simp)
      rw [e,ht 0 hk0] at this;cases this))
    | gone =>
     obtain ⟨vs,t,fz,a1,a2⟩:=hob
     exact ⟨vs,t,fz,hb.trans a1,fun j hj=>(hfix _ _ (a2 j hj)).1⟩
   ·by_cases hc:b'=b∧o<k
    ·obtain ⟨rfl,ho⟩:=hc
     exact ⟨us[o]'(by omega),hvec o _ (Aa _)⟩
    rw [hout b' o hc]
    simp only [G',if_neg hc] at hb
    exact h.tags.ex b' o hb
   ·rw [World.frozen?_setCells]
    simp only [G'] at hb
    split at hb
    ·cases hb
    exact h.tags.obj b' o i hb
   rw [World.frozen?_setCells]
   simp only [G'] at hb
   split at hb
   ·cases hb
   exact h.tags.tail b' o L hb
  have hrun:(execOp a.eval (⟨none,.store t (.tmp r) x,ty,pos,aft,gd⟩:Oper)).run P w=.ok .skip W:=
   G8 hsz (show a.eval (.tmp r)=_ from hv) (by omega) hrun0
  exact Gl (by intro c h;cases h) hrun ⟨G',_,hst,hkeep,rfl,rfl,rfl,rfl⟩
end
section
variable {P:Program} {d:Nat} {sz:Nat} {dfs:List Nat} {rnd:Option Nat} {l0:List Oper} {up own:(Nat→Bool)→List AObj} {KP:List PanicEntry→St→Prop} {E:List Oper→(Nat→AV)→Prop} {S:List SegY} {l:List Oper} {fr:Nat→AV} {ty:TypeId} {pos:String} {aft:Array Edge} {s:Nat} {T F:List Nat}
theorem Y.allocP {t:TypeId} {z:Value} {k:Nat} (hz:∀w,(zeroValue t).run P w=.ok z w) (h:ChainY P d l0 sz up own dfs rnd KP E S l (A9 s (.cellp k) fr)) (hk:z.cells.size=k:=by rfl) (hs:Nat.blt s sz=true:=by rfl):
  ChainY P d l0 sz up own dfs rnd KP E (.s [s] none T F::S) (⟨some s,.alloc t,ty,pos,aft,none⟩::l) fr:=by
 refine ⟨_,l,[(s,.cellp k)],rfl,⟨rfl,rfl,fun B f _ _ _ hf=>.of ?_⟩,h⟩
 exact AOp.allocP (st:=⟨sz,f,up B,own B,dfs,rnd⟩) hz hk (by simpa using hs)
theorem Y.storeP {t:TypeId} {x:Operand} {r k:Nat} {y:AV} {ys:List AV} (hsz:∀w,(Go.sizeOf t).run P w=.ok k w) (h:ChainY P d l0 sz up own dfs rnd KP E S l (A9 r (.ro ys) fr))
  (hf:fr r=.cellp k:=by exact sL0) (hx:B9 fr x=y:=by exact sL0) (hc:y.cells=ys:=by exact sL0)
  (hk:ys.length=k:=by rfl) (hk0:0<k:=by decide) (h1:ys.all AV.one=true:=by exact sL2):
  ChainY P d l0 sz up own dfs rnd KP E (.s [r] none T F::S) (⟨none,.store t (.tmp r) x,ty,pos,aft,none⟩::l) fr:=by
 subst hc
 refine ⟨_,l,[(r,.ro y.cells)],rfl,⟨rfl,rfl,fun B f _ _ _ hfr=>.of ?_⟩,h⟩
 have e:f r=fr r:=hfr r (by simp [lk,av,Op.operands])
 have ex:B9 f x=y:=by rw [agr hfr (by simp [Op.operands])];exact hx
 exact AOp.storeP (st:=⟨sz,f,up B,own B,dfs,rnd⟩) hsz (e.trans hf) ex hk hk0 h1
end
end Go.SX
