/- On the way (part 9). -/
import Derived.Shelf.Strings.Builder1
import Derived.Test.YtofbdcbjpdpllaaGreatDoorInvertComesCardSaidPart8
set_option linter.all false
namespace Go.SX.Nb
open Go Go.SX Go.Proofs
variable [ErrAt]
set_option maxRecDepth 4000
/-! The columns on the way through moves. -/
theorem zt {U:List AObj} {i j:Nat} {x y:AObj} (h:U[i]? = some x) (hne:j≠i):(U.set j y)[i]? = some x:=by rw [El hne];exact h
theorem Kq {k:List Expr} {i:Nat} (h:i<k.length):(k.map Aa)[i]? = some (Aa (k.getD i A8))∧k.getD i A8∈k∧∀(f:Expr→Rs) (d:Rs),(k.map f).getD i d=f (k.getD i A8):=by
 have e:k.getD i A8=k[i]:=by rw [Ch,Al h];rfl
 rw [e]
 refine ⟨by simp [h],Db h,fun f d=>?_⟩
 rw [Ch,Ce,Al h]
 rfl
theorem ow {e:Expr} (h:C1 e=true):(e.op=5→e.kids.length=2)∧(e.op=3∨e.op=4→e.kids.length=1)∧(e.op=6→Bx e.text=(e.kids.length:Int))∧(e.op=1∨e.op=2∨e.op=3∨e.op=4∨e.op=5∨e.op=6):=by
 cases Gc h with
 | val v hp h0=>simp [Cs,Expr.op]
 | name t ht=>simp [B6,Expr.op]
 | neg a=>simp [F1,Expr.op,Expr.kids]
 | no a=>simp [F1,Expr.op,Expr.kids]
 | bin t a b ht=>simp [Gx,Expr.op,Expr.kids]
 | call t k ht=>simpa [Expr.op,Expr.kids,Expr.text] using ht
def Nj (s:Str):Int:=if s==[111,114] then 0 else if s==[97,110,100] then 1 else if (((((s==[61]) || (s==[33,61])) || (s==[60])) || (s==[60,61])) || (s==[62])) || (s==[62,61]) then 3 else if ((s==[43]) || (s==[45])) || (s==[38]) then 4 else if ((s==[42]) || (s==[47])) || (s==[37]) then 5 else 7
theorem kg (s:Str):Nj s=if 0≤Bj s then Bj s else 7:=by
 by_cases hf:s∈levels.flatten
 ·have h3:(levels.flatten.all fun s=>decide (Nj s=if 0≤Bj s then Bj s else 7))=true:=by kernel_rfl
  exact of_decide_eq_true (B2.1 h3 s hf)
 have hn:=hf
 have h:Bj s = -1:=by
  rcases Hq s with h|⟨h,_⟩
  ·exact absurd h hf
  exact h
 rw [h]
 simp only [levels,List.flatten_cons,List.flatten_nil,Hu,E0,Dz,By,Hb,or_false,not_or] at hn
 obtain ⟨a1,a2,a3,a4,a5,a6,a7,a8,a9,b1,b2,b3,b4,b5⟩:=hn
 simp [Nj, *]
/-- The level of a node. -/
def d9 (e:Expr):Int:=if e.op==4 then 2 else if e.op==3 then 6 else if e.op==5 then Nj e.text else 7
theorem fl {e:Expr} (h:C1 e=true):d9 e=(levE e:Int):=by
 unfold d9 levE
 split
 ·rfl
 split
 ·rfl
 split
 ·rename_i h5
  have hb:0≤Bj e.text:=by
   have h5':e.op=5:=by simpa using h5
   rw [Gs] at h
   unfold O1 at h
   simp [h5'] at h
   exact h.2.1
  rw [kg,if_pos hb]
  omega
 rfl
theorem ACu (s:Str) (Hp:List AObj):AFun Tryz.prog 158 [Ah s] Hp (A6 (Nj s)):=by
 refine Aq [.tmp 2] [0] Tryz.func158 Tryz.ntmps158 (fun d=>?_)
 refine Z76 ?_;refine Z37 ?_;refine A2 [3] ?_;refine Z88 ?_;refine A2 [3,4] ?_
 refine A4 (fun ht4=>?_) (fun ht4=>?_)
 ·exact m8
 refine Z1 ?_;refine A2 [3,6] ?_
 refine A4 (fun ht6=>?_) (fun ht6=>?_)
 ·exact m8
 refine W.join ⟨23,Ao 3 (Ah s) (Ao 8 (B8 ((((((s==[61]) || (s==[33,61])) || (s==[60])) || (s==[60,61])) || (s==[62])) || (s==[62,61]))) (fun _=>.any)),Hp,[],[],none⟩ ?_ ?_
 ·refine m9 ?_
  refine A4 (fun ht8=>?_) (fun ht8=>?_)
  ·exact m3
  refine m9 ?_
  refine A4 (fun ht8=>?_) (fun ht8=>?_)
  ·exact m3
  refine m9 ?_
  refine A4 (fun ht8=>?_) (fun ht8=>?_)
  ·exact m3
  refine m9 ?_
  refine A4 (fun ht8=>?_) (fun ht8=>?_)
  ·exact m3
  refine m9 ?_
  refine A4 (fun ht8=>?_) (fun ht8=>?_)
  ·exact m3
  refine Z31 ?_;refine A2 [3,8] ?_;exact Z44
 refine A4 (fun ht8=>?_) (fun ht8=>?_)
 ·exact m8
 refine W.join ⟨23,Ao 3 (Ah s) (Ao 15 (B8 (((s==[43]) || (s==[45])) || (s==[38]))) (fun _=>.any)),Hp,[],[],none⟩ ?_ ?_
 ·refine Z1 ?_;refine A2 [3,15] ?_
  refine A4 (fun ht15=>?_) (fun ht15=>?_)
  ·refine G9 [3,15] ?_;exact Z92
  refine Z1 ?_;refine A2 [3,15] ?_
  refine A4 (fun ht15=>?_) (fun ht15=>?_)
  ·refine G9 [3,15] ?_;exact Z92
  refine Z31 ?_;refine A2 [3,15] ?_;exact Z44
 refine A4 (fun ht15=>?_) (fun ht15=>?_)
 ·exact m8
 refine W.join ⟨23,Ao 19 (B8 (((s==[42]) || (s==[47])) || (s==[37]))) (fun _=>.any),Hp,[],[],none⟩ ?_ ?_
 ·refine Z1 ?_;refine A2 [3,19] ?_
  refine A4 (fun ht19=>?_) (fun ht19=>?_)
  ·refine G9 [19] ?_;exact Z92
  refine Z1 ?_;refine A2 [3,19] ?_
  refine A4 (fun ht19=>?_) (fun ht19=>?_)
  ·refine G9 [19] ?_;exact Z92
  refine Z31 ?_;refine A2 [19] ?_;exact Z44
 refine A4 (fun ht19=>?_) (fun ht19=>?_)
 ·exact m8
 refine Z22 ?_;refine Z57 ?_;exact A5 (Ap A3) ⟨by simp_all [Nj],rfl⟩

theorem zu (e:Expr) (Hp:List AObj):AFun Tryz.prog 118 [Aa e] Hp (A6 (d9 e)):=by
 refine Aq [.tmp 2] [0] Tryz.func118 Tryz.ntmps118 (fun d=>?_)
 refine Z93 ?_;refine Z32 ?_;refine A2 [1,4] ?_;refine Z88 ?_;refine A2 [1,4,5] ?_
 refine A4 (fun ht5=>?_) (fun ht5=>?_)
 ·refine Z57 ?_;exact uj
 refine Z1 ?_;refine A2 [1,4,7] ?_
 refine A4 (fun ht7=>?_) (fun ht7=>?_)
 ·refine Z57 ?_;exact uj
 refine Z1 ?_;refine A2 [1,9] ?_
 refine A4 (fun ht9=>?_) (fun ht9=>?_)
 ·refine Z1 ?_;refine Ac Tryz.call158 (ACu e.text _) ?_;refine A7 ?_;refine Z4 ?_;exact uj
 refine Z22 ?_;refine Z57 ?_;exact A5 (Ap A3) ⟨by simp_all [d9],rfl⟩

end Go.SX.Nb
namespace Go.Proofs
open Go.Shelf Go.RowKit

section
variable {P:Program} (w:World)

/-- Bytes behind a builder's bytes: what is handed back lies where it lay, or in the next block, or nowhere still. -/
theorem ki {t u ty e:TypeId} {i:TypeInfo} (ht:P.underlying t=some (.slice e)) (hu:P.underlying u=some .string) (hi:P.info? e=some i) (hz:i.zero=some (.int .u8 0)) (hsize:i.size=1) (hby:i.bytes=1)
  (v:Value) (n:Nat) (xs:List Value) (hown:w.ownsRow 0 e 1 v n xs) (s:ByteArray) (hb:n+s.size≤140737488355328):
  ∃v' w',(Builtin.append_ #[t,u] ty #[v,.string s]).run P w=.ok v' w'∧w'.ownsRow 0 e 1 v' (n+s.size) (xs++Lib.strCells s)∧w.grownBy w' v'.ownBlock ∧
   ((v=.slice none 0 0∧v'=v∧s.size=0)∨(∃g cap,v=.slice (some ⟨g,0,none⟩) n cap∧v'=.slice (some ⟨g,0,none⟩) (n+s.size) cap)∨∃cap,v'=.slice (some ⟨w.heap.size,0,none⟩) (n+s.size) cap∧0<n+s.size):=by
 have h63:n+s.size≤maxLen:=by unfold maxLen;omega
 obtain ⟨v',w',hr,h1,h2,h3⟩:=Lib.run_append_own_string (P:=P) w 0 t u ty e i ht hu hi hz hsize hby v n xs hown s h63 hb (Nat.zero_le _)
 have hxl:xs.length=n:=by simpa using hown.1
 refine ⟨v',w',hr,h1,?_⟩
 rcases hown.2 with ⟨rfl,rfl⟩|⟨g,cap,cur,rfl,hbg,hg,hnc,hcm,hcs,htake⟩
 ·by_cases hm:s.size=0
  ·have e1:=h3.2 ⟨rfl,hm⟩
   exact ⟨by rw [e1];exact h2,.inl ⟨rfl,e1,hm⟩⟩
  have hr2:=run_append_nil_string (P:=P) w t u ty e i (.int .u8 0) ht hu hi hz s (by omega) (by omega) (by rw [hby];omega)
  rw [hr] at hr2
  injection hr2 with e1 e2
  refine ⟨?_,.inr (.inr ⟨_,by rw [e1,Nat.zero_add],by omega⟩)⟩
  rw [e2]
  exact ⟨rfl,rfl,rfl,by simp,fun k hk _=>Lib.alloc_old w.drew _ k hk⟩
 by_cases hroom:n+s.size≤cap
 ·have hcs':cur.size=cap:=by simpa using hcs
  have hr2:=Lib.run_append_room_string (P:=P) w t u ty e i ht hu hi hsize g n cap cur hg s hroom (by omega)
  rw [hr] at hr2
  injection hr2 with e1 e2
  exact ⟨by rw [e1];exact h2,.inr (.inl ⟨g,cap,rfl,e1⟩)⟩
 have holds:∀j u,xs[j]? = some u→w.cell? ((⟨g,0,none⟩:Addr).add j)=some u:=hown.cells (g:=g) rfl
 have hr2:=Lib.run_append_grow_string (P:=P) w t u ty e i (.int .u8 0) ht hu hi hz ⟨g,0,none⟩ n cap xs (by rw [hsize];simpa using hxl) holds s (by omega) (by omega) (by rw [hby];exact growslice_fits (by omega) (by omega))
 rw [hr] at hr2
 injection hr2 with e1 e2
 refine ⟨?_,.inr (.inr ⟨_,e1,by omega⟩)⟩
 rw [e2]
 exact ⟨rfl,rfl,rfl,by simp,fun k hk _=>Lib.alloc_old w.drew _ k hk⟩
end

theorem Pu {P:Program} {w w':World} {ops:Array Oper} {rest:List Oper} {o:Oper} {a:Act} {Q:Exit→Act→World→Prop} {v v':Value} {s:ByteArray} (hgd:o.guard=none) (sl x:Operand) (t u ty:TypeId)
  (ho:o.op=.call { callee:=.builtin .append,args:=#[sl,x],argTypes:=#[t,u] }) (hty:o.type=ty) (hs:a.eval sl=v) (hx:a.eval x=.string s) (hrun:(Builtin.append_ #[t,u] ty #[v,.string s]).run P w=.ok v' w')
  (h:wpList P ops Q rest (a.put o.dst v') w'):wpList P ops Q (o::rest) a w:=by
 refine wpList_plain hgd fun K hK=>?_
 subst hty
 unfold Oper.wp execOp
 simp only [ho,resolve,invoke,builtin,Sem.run_bind,Sem.run_pure,Result.andThen_ok,List.map_toArray,List.map_cons,List.map_nil,hs,hx,hrun]
 exact hK _ _ h

section
variable {P:Program} {ρ:Ren}

set_option maxHeartbeats 1000000 in
set_option maxRecDepth 100000 in
/-- The check of an unused builder within a block of type T. -/
theorem kj (L:Lays.n240 P ρ) (X:Builder.X72 P ρ) {T:TypeId} (hl:liesAt P P.depth T (2 / P.cellsOf T) 0 (ρ.t 72) 1=true) (b:Nat) (w:World) (h0:w.cell? ⟨b,0,none⟩=some (.pointer none)) (hsh:w.shape? b=some (T,2)) (hfz:w.frozen? ⟨b,0,none⟩=false):
  Calls P (ρ.f 240) #[.pointer (some ⟨b,0,none⟩)] w fun e w'=>e=.returned (.tuple #[])∧w'=w.setCell ⟨b,0,none⟩ (.pointer (some ⟨b,0,none⟩)):=by
 obtain ⟨j,hj,hjs⟩:=Option.map_eq_some_iff.1 X.sizeBuilder
 have mixed:=L.mixed
 have t72:=L.t72;have a72:=L.a72;have z72:=L.z72;have v72:=L.v72;have u72:=run_underlying L.t72
 have t70:=L.t70;have a70:=L.a70;have z70:=L.z70;have v70:=L.v70;have u70:=run_underlying L.t70
 have t9:=L.t9;have a9:=L.a9;have z9:=L.z9;have v9:=L.v9;have u9:=run_underlying L.t9
 have t4:=L.t4;have a4:=L.a4;have z4:=L.z4;have v4:=L.v4;have u4:=run_underlying L.t4
 have t164:=L.t164;have a164:=L.a164;have z164:=L.z164;have v164:=L.v164;have u164:=run_underlying L.t164
 go_enter L.f240,Body.n240_ntmps ρ
 go_wp2
 rw [Lib.run_to_unsafe w ⟨b,0,none⟩ L.t70 L.t164 hj (by rw [hjs];decide) hsh (Nat.zero_lt_succ 1)]
 simp only [Result.andThen]
 rw [Oper.upon_value]
 go_wp2
 rw [run_callFunc_extern L.f276 (by kernel_rfl) (by kernel_rfl) (by kernel_rfl) (e:=Extern.AbiNoEscape.same) (by kernel_rfl)]
 rw [Lib.run_noEscape]
 simp only [Result.andThen]
 rw [Oper.upon_value]
 go_wp2
 rw [Lib.run_from_unsafe w ⟨b,0,none⟩ L.t164 L.t70 hj hsh hl]
 simp only [Result.andThen]
 rw [Oper.upon_value]
 go_wp2
 go_end0
 exact ⟨rfl,rfl⟩

/-- The check: behind it the first cell holds the builder's own address; nothing else turns. -/
theorem oz (L:Lays.n240 P ρ) (X:Builder.X72 P ρ) {T e:TypeId} (hl:liesAt P P.depth T (2 / P.cellsOf T) 0 (ρ.t 72) 1=true) (b:Nat) (p v:Value) (n:Nat) (bs:List Value) (w:World) (h:L8 T e b p v n bs w):
  Calls P (ρ.f 240) #[.pointer (some ⟨b,0,none⟩)] w fun e' w'=>e'=.returned (.tuple #[])∧L8 T e b (.pointer (some ⟨b,0,none⟩)) v n bs w'∧w.grownBy w' (some b)∧w'.heap.size=w.heap.size:=by
 obtain ⟨h1,hp,h3,h4⟩:=h
 rcases hp with rfl|rfl
 ·refine (kj L X hl b w (by rw [Lib.cell_of_heap h1];rfl) (by simp [World.shape?,h1]) (Lib.frozen_of_heap h1 0)).mono ?_
  rintro e' w' ⟨rfl,rfl⟩
  have hgr:w.grownBy (w.setCell ⟨b,0,none⟩ (.pointer (some ⟨b,0,none⟩))) (some b):=⟨rfl,rfl,rfl,by simp [World.setCell],fun k _ hk=>Below.heap_setCell _ _ _ _ (fun e=>hk (by simp [e]))⟩
  exact ⟨rfl,⟨by simp [World.setCell,Array.getElem?_modify,h1],.inr rfl,h3.kept hgr (.inr h4),h4⟩,hgr,by simp [World.setCell]⟩
 refine (Any.Builder_copyCheck_used L X b w (by rw [Lib.cell_of_heap h1];rfl)).mono ?_
 rintro e' w' ⟨rfl,rfl⟩
 exact ⟨rfl,⟨h1,.inr rfl,h3,h4⟩,⟨rfl,rfl,rfl,Nat.le_refl _,fun _ _ _=>rfl⟩,rfl⟩

set_option maxHeartbeats 1000000 in
set_option maxRecDepth 100000 in
/-- How many bytes there are. -/
theorem bldLen (L:Lays.n170 P ρ) {T e:TypeId} (b:Nat) (p v:Value) (n:Nat) (bs:List Value) (w:World) (h:L8 T e b p v n bs w):
  Calls P (ρ.f 170) #[.pointer (some ⟨b,0,none⟩)] w fun e' w'=>e'=.returned (.int .i64 n)∧w'=w:=by
 obtain ⟨h1,_,h3,_⟩:=h
 obtain ⟨ao,cap,rfl⟩:∃ao cap,v=.slice ao n cap:=by
  rcases h3.2 with ⟨hv,h0⟩|⟨g,cap,cur,hv,_⟩
  ·exact ⟨none,0,by rw [hv,h0]⟩
  exact ⟨_,_,hv⟩
 have c1:w.cell? ⟨b,1,none⟩=some (.slice ao n cap):=by rw [Lib.cell_of_heap h1];rfl
 have mixed:=L.mixed
 have t72:=L.t72;have a72:=L.a72;have z72:=L.z72;have v72:=L.v72;have u72:=run_underlying L.t72
 have t70:=L.t70;have a70:=L.a70;have z70:=L.z70;have v70:=L.v70;have u70:=run_underlying L.t70
 have t37:=L.t37;have a37:=L.a37;have z37:=L.z37;have v37:=L.v37;have u37:=run_underlying L.t37
 have t3:=L.t3;have a3:=L.a3;have z3:=L.z3;have v3:=L.v3;have u3:=run_underlying L.t3
 go_enter L.f170,Body.n170_ntmps ρ
 go_wp2
 go_ret
 exact ⟨rfl,rfl⟩

set_option maxHeartbeats 2000000 in
set_option maxRecDepth 100000 in
/-- A text is written behind it. -/
theorem bldWrite (L:Lays.n166 P ρ) (X:Builder.Extra P ρ) {T:TypeId} (hl:liesAt P P.depth T (2 / P.cellsOf T) 0 (ρ.t 72) 1=true) (hTe:T≠ρ.t 5) (b:Nat) (p v:Value) (n:Nat) (bs:List Value) (s:ByteArray) (w:World) (h:L8 T (ρ.t 5) b p v n bs w)
  (hlen:n+s.size≤140737488355328):
  Calls P (ρ.f 166) #[.pointer (some ⟨b,0,none⟩),.string s] w fun e w'=>e=.returned (.tuple #[.int .i64 s.size,.nilIface])∧∃v',L8 T (ρ.t 5) b (.pointer (some ⟨b,0,none⟩)) v' (n+s.size) (bs++Lib.strCells s) w' ∧
   (w'.os=w.os∧w'.tape=w.tape∧w'.output=w.output∧w.heap.size≤w'.heap.size)∧(∀k,k<w.heap.size→k≠b→v'.ownBlock≠some k→w'.heap[k]? = w.heap[k]?) ∧
   ((v=.slice none 0 0∧v'=v∧s.size=0)∨(∃g cap,v=.slice (some ⟨g,0,none⟩) n cap∧v'=.slice (some ⟨g,0,none⟩) (n+s.size) cap)∨∃cap,v'=.slice (some ⟨w.heap.size,0,none⟩) (n+s.size) cap∧0<n+s.size):=by
 obtain ⟨i0,hi,hz0,hz1,hz2⟩:=info_parts X.infoByte
 have mixed:=L.mixed
 have t72:=L.t72;have a72:=L.a72;have z72:=L.z72;have v72:=L.v72;have u72:=run_underlying L.t72
 have t70:=L.t70;have a70:=L.a70;have z70:=L.z70;have v70:=L.v70;have u70:=run_underlying L.t70
 have t37:=L.t37;have a37:=L.a37;have z37:=L.z37;have v37:=L.v37;have u37:=run_underlying L.t37
 have t3:=L.t3;have a3:=L.a3;have z3:=L.z3;have v3:=L.v3;have u3:=run_underlying L.t3
 have t9:=L.t9;have a9:=L.a9;have z9:=L.z9;have v9:=L.v9;have u9:=run_underlying L.t9
 have t4:=L.t4;have a4:=L.a4;have z4:=L.z4;have v4:=L.v4;have u4:=run_underlying L.t4
 have t164:=L.t164;have a164:=L.a164;have z164:=L.z164;have v164:=L.v164;have u164:=run_underlying L.t164
 have t5:=X.t5;have a5:=X.a5;have z5:=X.z5;have v5:=X.v5;have u5:=run_underlying X.t5
 have e240:∀args w,(callFunc (ρ.f 240) args).run P w=.ok (.enter (ρ.f 240) args) w:=enters_of L.f240 (by kernel_rfl) rfl
 go_enter L.f166,Body.n166_ntmps ρ
 go_wp2_with (go_at_fn (ρ.f 240);refine (oz { L with } X.toX72 hl b p v n bs _ h).mono ?_)
 rintro e w1 ⟨rfl,⟨hbk,_,hown,hne⟩,hg1,hs1⟩
 have c0:w1.cell? ⟨b,0,none⟩=some (.pointer (some ⟨b,0,none⟩)):=by rw [Lib.cell_of_heap hbk];rfl
 have c1:w1.cell? ⟨b,1,none⟩=some v:=by rw [Lib.cell_of_heap hbk];rfl
 obtain ⟨v',w2,hrun,hown',hgrow,hcase⟩:=ki (P:=P) w1 (ty:=ρ.t 37) L.t37 L.t9 hi hz0 hz1 hz2 v n bs hown s hlen
 have hlt:b<w1.heap.size:=(Array.getElem?_eq_some_iff.1 hbk).1
 have hne':v'.ownBlock≠some b:=by
  rcases hcase with ⟨_,e1,_⟩|⟨g,cap,e1,e2⟩|⟨cap,e1,_⟩
  ·rw [e1];exact hne
  ·rw [e2];rw [e1] at hne;exact hne
  rw [e1];simp [Value.ownBlock];omega
 have hb2:w2.heap[b]? = some (.cells #[.pointer (some ⟨b,0,none⟩),v] T (0,0)):=by
  rw [hgrow.block b hlt (fun e=>hne' e.symm)]
  exact hbk
 have d0:w2.cell? ⟨b,0,none⟩=some (.pointer (some ⟨b,0,none⟩)):=by rw [Lib.cell_of_heap hb2];rfl
 have d1:w2.cell? ⟨b,1,none⟩=some v:=by rw [Lib.cell_of_heap hb2];rfl
 have f1:w2.frozen? ⟨b,1,none⟩=false:=Lib.frozen_of_heap hb2 1
 obtain ⟨ao,n',cap,rfl⟩:∃ao n' cap,v'=.slice ao n' cap:=by
  rcases hown'.2 with ⟨hv,_⟩|⟨g,cap,cur,hv,_⟩
  ·exact ⟨_,_,_,hv⟩
  exact ⟨_,_,_,hv⟩
 go_wp2_with (at_builtin;refine Pu rfl _ _ (ρ.t 37) (ρ.t 9) (ρ.t 37) rfl rfl rfl rfl hrun ?_)
 go_ret2
 refine ⟨rfl,_,⟨by simp [World.setCell,Array.getElem?_modify,hb2],.inr rfl,hown'.kept (row:=some b) ⟨rfl,rfl,rfl,by simp [World.setCell],fun k _ hk=>Below.heap_setCell _ _ _ _ (fun e=>hk (by simp [e]))⟩ (.inr hne'),hne'⟩,⟨?_,?_,?_,?_⟩,fun k hk hkb hkr=>?_,?_⟩
 ·exact hgrow.os.trans hg1.os
 ·exact hgrow.tape.trans hg1.tape
 ·exact hgrow.output.trans hg1.output
 ·have:=hgrow.size
  simp [World.setCell];omega
 ·rw [Below.heap_setCell _ _ _ _ hkb,hgrow.block k (by omega) (fun e=>hkr e.symm),hg1.block k hk (by simpa using hkb)]
 rw [hs1] at hcase;exact hcase

set_option maxHeartbeats 2000000 in
set_option maxRecDepth 100000 in
/-- Its text: some of its row is frozen; nothing else turns. -/
theorem bldString (L:Lays.n169 P ρ) (X:Builder.Extra P ρ) {T:TypeId} (b:Nat) (p v:Value) (l:List UInt8) (w:World) (h:L8 T (ρ.t 5) b p v l.length (Lib.byteCells l) w) (hcap:∀g,v≠.slice (some ⟨g,0,none⟩) 0 0):
  Calls P (ρ.f 169) #[.pointer (some ⟨b,0,none⟩)] w fun e w'=>e=.returned (.string ⟨l.toArray⟩)∧(w'.os=w.os∧w'.tape=w.tape∧w'.output=w.output∧w.heap.size≤w'.heap.size)∧∀k,v.ownBlock≠some k→w'.heap[k]? = w.heap[k]? := by
 obtain ⟨hbk,_,hown,hne⟩:=h
 have mixed:=L.mixed
 have t72:=L.t72;have a72:=L.a72;have z72:=L.z72;have v72:=L.v72;have u72:=run_underlying L.t72
 have t70:=L.t70;have a70:=L.a70;have z70:=L.z70;have v70:=L.v70;have u70:=run_underlying L.t70
 have t37:=L.t37;have a37:=L.a37;have z37:=L.z37;have v37:=L.v37;have u37:=run_underlying L.t37
 have t127:=L.t127;have a127:=L.a127;have z127:=L.z127;have v127:=L.v127;have u127:=run_underlying L.t127
 have t3:=L.t3;have a3:=L.a3;have z3:=L.z3;have v3:=L.v3;have u3:=run_underlying L.t3
 have t9:=L.t9;have a9:=L.a9;have z9:=L.z9;have v9:=L.v9;have u9:=run_underlying L.t9
 have t5:=X.t5;have a5:=X.a5;have z5:=X.z5;have v5:=X.v5;have u5:=run_underlying X.t5
 rcases hown.2 with ⟨rfl,h0⟩|⟨g,cap,cur,rfl,hbg,hg,hnc,hcm,hcs,htake⟩
 ·have hl:l=[]:=List.eq_nil_of_length_eq_zero h0
  subst hl
  have hUS:=Any.unsafeString_none L X
  have c1:w.drew.cell? ⟨b,1,none⟩=some (.slice none 0 0):=by
   have:w.drew.heap[b]? = some (.cells #[p,.slice none 0 0] T (0,0)):=hbk
   rw [Lib.cell_of_heap this];rfl
  have hSD:(Builtin.unsafeSliceData_ #[(ρ.t 37)] (ρ.t 127) #[.slice none 0 0]).run P w.drew=.ok (.pointer none) w.drew:=rfl
  go_enter L.f169,Body.n169_ntmps ρ
  go_wp2
  go_region_o
  all_goals (go_wp2;go_ret;exact ⟨rfl,⟨rfl,rfl,rfl,Nat.le_refl _⟩,fun _ _=>rfl⟩)
 have hc0:cap≠0:=by
  rintro rfl
  exact hcap g (by rw [show l.length=0 by omega])
 have c1:w.drew.cell? ⟨b,1,none⟩=some (.slice (some ⟨g,0,none⟩) l.length cap):=by
  have:w.drew.heap[b]? = some (.cells #[p,.slice (some ⟨g,0,none⟩) l.length cap] T (0,0)):=hbk
  rw [Lib.cell_of_heap this];rfl
 have hSD:(Builtin.unsafeSliceData_ #[(ρ.t 37)] (ρ.t 127) #[.slice (some ⟨g,0,none⟩) l.length cap]).run P w.drew=.ok (.pointer (some ⟨g,0,none⟩)) w.drew:=
  Lib.run_unsafeSliceData_row _ _ _ _ _ _ hc0
 by_cases hl:l=[]
 ·subst hl
  have hUS:=Any.unsafeString_none L X
  clear hc0 hcap
  simp only [List.length_nil] at c1 hSD
  go_enter L.f169,Body.n169_ntmps ρ
  go_wp2
  go_region_o
  all_goals (go_wp2;go_ret;exact ⟨rfl,⟨rfl,rfl,rfl,Nat.le_refl _⟩,fun _ _=>rfl⟩)
 have hUS:(Builtin.unsafeString_ #[(ρ.t 127),(ρ.t 3)] (ρ.t 9) #[.pointer (some ⟨g,0,none⟩),.int .i64 l.length]).run P w.drew=.ok (.string ⟨l.toArray⟩) (w.drew.freeze ⟨g,0,none⟩ l.length):=by
  refine Lib.run_unsafeString_row w.drew (ρ.t 127) (ρ.t 3) (ρ.t 9) (ρ.t 5) L.t127 X.cellsByte g cur.size (by have hg':w.drew.heap[g]? = some (.cells cur (ρ.t 5) (0,0)):=hg;simp [World.shape?,hg']) l hl (by omega) (by unfold maxLen at hcm;omega) ?_
  intro j x hx
  exact hown.cells (g:=g) rfl j (.int .u8 x.toNat) (by simp [Lib.byteCells,hx])
 have hfz:∀k,g≠k→(w.drew.freeze ⟨g,0,none⟩ l.length).heap[k]? = w.heap[k]? := fun k hk=>by
  unfold World.freeze
  split
  ·rfl
  show (w.heap.modify g _)[k]? = _
  rw [Array.getElem?_modify,if_neg hk]
 have hfs:(w.drew.freeze ⟨g,0,none⟩ l.length).heap.size=w.heap.size:=by
  unfold World.freeze
  split
  ·rfl
  show (w.heap.modify g _).size=_
  simp
 have hfo:(w.drew.freeze ⟨g,0,none⟩ l.length).os=w.os∧(w.drew.freeze ⟨g,0,none⟩ l.length).tape=w.tape∧(w.drew.freeze ⟨g,0,none⟩ l.length).output=w.output:=by
  unfold World.freeze
  split<;>exact ⟨rfl,rfl,rfl⟩
 clear hc0 hcap
 go_enter L.f169,Body.n169_ntmps ρ
 go_wp2
 go_region_o
 all_goals (go_wp2;go_ret;exact ⟨rfl,⟨hfo.1,hfo.2.1,hfo.2.2,Nat.le_of_eq hfs.symm⟩,fun k hk=>hfz k (fun e=>hk (by rw [e];rfl))⟩)
end
end Go.Proofs

namespace Go.SX.Nb
open Go Go.SX Go.Proofs Go.Shelf
variable [ErrAt]
set_option maxRecDepth 8000
/-! show's builder. -/
theorem zv:Builder.Extra Tryz.prog Tryz.ren155 where
 sizeBuilder:=by kernel_rfl
 liesBuilder:=by kernel_rfl
 t5:=Tryz.underlying5
 a5:=Tryz.isAgg5
 z5:=Tryz.sizeOf5
 v5:=Tryz.zeroValue5
 infoByte:=by kernel_rfl
 cellsByte:=by kernel_rfl
 sizeByte:=by kernel_rfl
 neB5:=by decide
theorem sx:liesAt Tryz.prog Tryz.prog.depth 120 (2 / Tryz.prog.cellsOf 120) 0 118 1=true:=by kernel_rfl
abbrev Tu (bs:Str):AObj:=.bld 120 5 bs
theorem Cz {n:Nat} {bs:Str}:ObjLow n (Tu bs):=trivial
/-- (*strings.Builder).WriteString. -/
theorem Tv (bs s:Str) (hl:bs.length+s.length≤140737488355328) (o:Nat) (Hp:List AObj) (ho:Hp[o]? = some (Tu bs)):
  ACall Tryz.prog 119 [.ptr o 0,Ah s] Hp (fun r H'=>r=.tup [A6 s.length,.v .nilIface]∧H'=Hp.set o (Tu (bs++s))):=by
 refine ACall.bldWrite ho (fun b p v w h=>?_)
 have hw:=bldWrite Tryz.lays166 zv (T:=120) sx (by decide) b p v bs.length (Lib.byteCells bs) ⟨s.toArray⟩ w h (by rw [Em];exact hl)
 rw [Em,Lib.strCells_eq,←Lib.byteCells_append] at hw
 exact hw
/-- (*strings.Builder).Len. -/
theorem c74 (bs:Str) (o:Nat) (Hp:List AObj) (ho:Hp[o]? = some (Tu bs)):AFun Tryz.prog 74 [.ptr o 0] Hp (A6 bs.length):=
 AFun.bldLen ho (fun b p v w h=>bldLen Tryz.lays170 (T:=120) (e:=5) b p v _ _ w h)
/-- (*strings.Builder).String. -/
theorem c75 (bs:Str) (o:Nat) (Hp:List AObj) (ho:Hp[o]? = some (Tu bs)):ACall Tryz.prog 75 [.ptr o 0] Hp (fun r H'=>r=Ah bs∧H'=Hp.set o (.cells 120 [.any,.any])):=
 ACall.bldString ho (fun b p v w h hc=>bldString (ρ:=Tryz.ren155) { Tryz.lays155 with } zv (T:=120) b p v bs w h hc)
end Go.SX.Nb
namespace Go.SX.Nb
open Go Go.SX Go.Proofs
variable [ErrAt]
set_option maxRecDepth 4000
abbrev u6:AV:=.v (.tuple #[])
abbrev Gm:Nat:=1099511627776
/-- What node writes. -/
def p8 (e:Expr):Prop:=∀(o:Nat) (bs:Str) (Hp:List AObj),Hp[o]? = some (Tu bs)→bs.length+(B0 e).length≤Gm→ACall Tryz.prog 73 [.ptr o 0,Aa e] Hp (fun r H'=>r=u6∧H'=Hp.set o (Tu (bs++B0 e)))
theorem km (e:Expr):B0 e=Of e.op e.text e.val e.kids (e.kids.map B0):=by
 cases e with
 | mk o t v k=>rw [B0,Ng];rfl
theorem sy {k:List Expr} {i:Nat} (h:i<k.length):(k.map B0).getD i []=B0 (k.getD i A8):=by
 rw [Ch,Ch,Ce,Al h]
 rfl
theorem Vh (l:List Str) (s:Str):Gl (l++[s])=Gl l++(44::32::s):=by
 induction l with
 | nil=>simp [Gl]
 | cons a r ih=>simp [Gl,ih]
theorem p9 {k:List Expr} {x:Nat} (h:x<k.length):(Gl ((k.take (x+1)).map B0)).drop 2=(Gl ((k.take x).map B0)).drop 2++(if 0<x then [44,32] else [])++B0 k[x]:=by
 rw [Ix h,G7,List.map_singleton,Vh]
 cases x with
 | zero=>simp [Gl]
 | succ x =>
  have:2≤(Gl ((k.take (x+1)).map B0)).length:=by
   rw [Ix (by omega),G7,List.map_singleton,Vh]
   simp
   omega
  rw [List.drop_append_of_le_length this,if_pos (by omega)]
  simp
theorem wn {k:List Expr} (x:Nat):(Gl ((k.take x).map B0)).length≤(Gl (k.map B0)).length:=by
 have:k.map B0=(k.take x).map B0++(k.drop x).map B0:=by rw [←G7,dh]
 rw [this]
 have:∀a b:List Str,(Gl a).length≤(Gl (a++b)).length:=by
  intro a b
  induction a with
  | nil=>simp [Gl]
  | cons c r ih=>simp [Gl];exact ih
 exact this _ _
theorem Zs {H:List AObj} {o:Nat} {a b:AObj}:(H.set o a).set o b=H.set o b:=De _
theorem kn (e:Expr) (he:p8 e) (hlev:d9 e=(levE e:Int)) (least:Nat) (l0:Int) (hl0:l0=(least:Int)) (o:Nat) (bs:Str) (Hp:List AObj) (ho:Hp[o]? = some (Tu bs)) (hb:bs.length+(Kp least e (B0 e)).length≤Gm):ACall Tryz.prog 121 [.ptr o 0,Aa e,A6 l0] Hp (fun r H'=>r=u6∧H'=Hp.set o (Tu (bs++Kp least e (B0 e)))):=by
 subst hl0
 refine Aq [] [0,1,2] Tryz.func121 Tryz.ntmps121 (fun d=>?_)
 refine Z3 ?_;refine A2 [0,2,4] ?_;refine Z37 ?_;refine Ac Tryz.call118 (zu e _) ?_;refine Z0 ?_;refine A2 [0,4,9] ?_
 refine A4 (fun ht9=>?_) (fun ht9=>?_)
 ·have hz:least≤levE e:=by
   have h:=ht9
   rw [hlev] at h
   simpa using h
  rw [show Kp least e (B0 e)=B0 e from if_pos hz] at hb ⊢
  refine Z1 ?_;refine Bw Tryz.call73 ho (by simp) Cz (he o bs _ (Av ho) (by omega)) ?_;refine A2 [] ?_;refine Z69 ?_;exact A5 .nores ⟨rfl,by simp⟩
 have hz:¬least≤levE e:=by
  have h:=ht9
  rw [hlev] at h
  simpa using h
 rw [show Kp least e (B0 e)=40::(B0 e++[41]) from if_neg hz] at hb ⊢
 simp only [Ay,As,Bn,Gm] at hb
 refine U4 ?_
 refine Bw Tryz.call119 ho (by simp) Cz (Tv bs [40] (by simp only [Gm,As,Ay,Bn] at *;omega) o _ (Av ho)) ?_
 refine A2 [0,4] ?_;refine Z1 ?_
 refine Bw Tryz.call73 (Ar ho) (by simp) Cz (he o (bs++[40]) _ (Av (Ar ho)) (by simp only [Gm,As,Ay,Bn] at *;omega)) ?_
 refine A2 [0] ?_;refine Z55 ?_
 refine Bw Tryz.call119 (Ar (Ar ho)) (by simp) Cz (Tv (bs++[40]++B0 e) [41] (by simp only [Gm,As,Ay,Bn] at *;omega) o _ (Av (Ar (Ar ho)))) ?_
 refine A2 [] ?_;exact L9 .nores ⟨rfl,by simp⟩

theorem c73:∀(n:Nat) (e:Expr),okE n e→B9 C1 e=true→B9 Cg e=true→p8 e:=by
 intro n
 induction n with
 | zero=>exact fun e h=>h.elim
 | succ n ih =>
 intro e hok hnd hrg o bs Hp ho hb
 have hnd0:=hnd
 have hrg0:=hrg
 rw [Cj,Ak] at hnd0 hrg0
 have hev:∀y∈e.kids,p8 y:=fun y hy=>ih y (hok.2.2 y hy) ((Ba _ _).1 hnd0.2 y hy) ((Ba _ _).1 hrg0.2 y hy)
 have hlv:∀y∈e.kids,d9 y=(levE y:Int):=fun y hy=>fl (by have:=(Ba _ _).1 hnd0.2 y hy;rw [Cj,Ak] at this;exact this.1)
 obtain ⟨k5,k34,k6,kall⟩:=ow hnd0.1
 have hi64:qn e.val.n:=by
  have:=hrg0.1
  simp only [Cg,Ak,decide_eq_true_eq] at this
  exact this
 have hlv0:=fl hnd0.1
 have pe:=km e
 have hol:=(Ae.1 ho).1
 unfold Of at pe
 refine Aq [] [0,1] Tryz.func73 Tryz.ntmps73 (fun d=>?_)
 refine Z3 ?_;refine P5 ?_;refine Z3 ?_;refine Ac Tryz.call118 (zu e _) ?_;refine A7 ?_;refine A2 [0,3,4] ?_;refine Z1 ?_;refine A2 [0,3,4,11] ?_;refine Z88 ?_;refine A2 [0,3,4,11,12] ?_
 refine A4 (fun ht12=>?_) (fun ht12=>?_)
 ·rw [if_pos ht12] at pe
  refine W.drawQ0 [0,1,3,0,8,24,63] 6 Aw (by kernel_rfl) ?_;refine Wf ?_;refine Cy Tryz.call120 (yw e.val hi64 _) ?_;refine Dw ?_
  refine Bw Tryz.call119 ho (by simp) Cz (Tv bs (Fh e.val) (by rw [pe] at hb;simp only [Gm] at hb;omega) o _ (Av ho)) ?_
  exact gw
 rw [if_neg (by rw [ht12];simp)] at pe
 refine Z1 ?_;refine A2 [0,3,4,11,21] ?_
 refine A4 (fun ht21=>?_) (fun ht21=>?_)
 ·rw [if_pos ht21] at pe
  refine W.drawQ0 [0,1,3,0,8,31] 5 Aw (by kernel_rfl) ?_;refine Wf ?_;refine Dw ?_
  refine Bw Tryz.call119 ho (by simp) Cz (Tv bs e.text (by rw [pe] at hb;simp only [Gm] at hb;omega) o _ (Av ho)) ?_
  exact gw
 rw [if_neg (by rw [ht21];simp)] at pe
 refine Z1 ?_;refine A2 [0,3,4,11,29] ?_
 refine A4 (fun ht29=>?_) (fun ht29=>?_)
 ·rw [if_pos ht29] at pe
  have hkl:=k34 (.inl (by simpa using ht29))
  rw [sy (by omega)] at pe
  rw [pe] at hb
  simp only [Ay,Gm] at hb
  refine Z14 ?_
  refine Bw Tryz.call119 ho (by simp) Cz (Tv bs [45] (by simp only [Gm,As,Ay,Bn] at *;omega) o _ (Av ho)) ?_
  refine P5 ?_;refine Z55 ?_
  refine A7 (h:=Ax (0) (Aa (e.kids.getD 0 A8)) (fun _=>(Kq (by omega)).1)) (hr:=?_)
  refine A7 ?_
  refine Bw Tryz.call121 (Ar ho) (by simp) Cz (kn (e.kids.getD 0 A8) (hev _ (Kq (by omega)).2.1) (hlv _ (Kq (by omega)).2.1) (6) _ (rfl) o (bs++[45]) _ (Av (Ar ho)) (by simp only [Gm,As,Ay,Bn] at *;omega)) ?_
  exact gw
 rw [if_neg (by rw [ht29];simp)] at pe
 refine Z1 ?_;refine A2 [0,3,4,11,41] ?_
 refine A4 (fun ht41=>?_) (fun ht41=>?_)
 ·rw [if_pos ht41] at pe
  have hkl:=k34 (.inr (by simpa using ht41))
  rw [sy (by omega)] at pe
  rw [pe] at hb
  simp only [Ay,As,ji,Bn,Gm] at hb
  refine Z14 ?_
  refine Bw Tryz.call119 ho (by simp) Cz (Tv bs [110,111,116,32] (by simp only [Gm,As,Ay,Bn] at *;omega) o _ (Av ho)) ?_
  refine P5 ?_;refine Z55 ?_
  refine A7 (h:=Ax (0) (Aa (e.kids.getD 0 A8)) (fun _=>(Kq (by omega)).1)) (hr:=?_)
  refine A7 ?_
  refine Bw Tryz.call121 (Ar ho) (by simp) Cz (kn (e.kids.getD 0 A8) (hev _ (Kq (by omega)).2.1) (hlv _ (Kq (by omega)).2.1) (2) _ (rfl) o (bs++[110,111,116,32]) _ (Av (Ar ho)) (by simp only [Gm,As,Ay,Bn] at *;omega)) ?_
  exact gw
 rw [if_neg (by rw [ht41];simp)] at pe
 refine Z1 ?_;refine A2 [0,3,4,11,53] ?_
 refine A4 (fun ht53=>?_) (fun ht53=>?_)
 ·rw [if_pos ht53] at pe
  have h5:e.op=5:=by simpa using ht53
  have hkl:=k5 h5
  have hlv5:levE e=(Bj e.text).toNat:=by simp [levE,h5]
  have hl5:=nk e.text
  rw [sy (by omega),sy (by omega)] at pe
  rw [pe] at hb
  simp only [Ay,As,Gm] at hb
  rw [hlv0,hlv5]
  refine Z1 ?_;refine A2 [0,3,4,5] ?_;refine Z32 ?_;refine A2 [0,3,4,5,57] ?_
  refine A4 (fun ht57=>?_) (fun ht57=>?_)
  ·have h3:(Bj e.text).toNat=3:=by have:=ht57;simp at this;omega
   have hf1:(((Bj e.text).toNat:Int)+1)=((Gt (Bj e.text).toNat:Nat):Int):=by rw [h3];rfl
   refine Z55 ?_;refine A2 [0,3,4,5] ?_;refine Fv ?_;refine Z14 ?_
   refine A7 (h:=Ax (0) (Aa (e.kids.getD 0 A8)) (fun _=>(Kq (by omega)).1)) (hr:=?_)
   refine Z0 ?_
   refine Bw Tryz.call121 ho (by simp) Cz (kn (e.kids.getD 0 A8) (hev _ (Kq (by omega)).2.1) (hlv _ (Kq (by omega)).2.1) (Gt (Bj e.text).toNat) _ (by first|exact hf1|rw [hf2]) o (bs) _ (Av ho) (by simp only [Gm,As,Ay,Bn] at *;omega)) ?_
   refine xn ?_;refine Wf ?_
   refine B4 (h:=Q.sadd (hl:=fun _=>by simp only [Ay,Bn];omega)) (hr:=?_)
   refine B4 (h:=Q.sadd (hl:=fun _=>by simp only [Ay,Bn,As];omega)) (hr:=?_)
   refine Dw ?_
   refine Bw Tryz.call119 (Ar ho) (by simp) Cz (Tv (bs++Kp (Gt (Bj e.text).toNat) (e.kids.getD 0 A8) (B0 (e.kids.getD 0 A8))) (32::(e.text++[32])) (by simp only [Gm,As,Ay,Bn] at *;omega) o _ (Av (Ar ho))) ?_
   refine A2 [0,3,4] ?_;refine Z55 ?_
   refine A7 (h:=Ax (1) (Aa (e.kids.getD 1 A8)) (fun _=>(Kq (by omega)).1)) (hr:=?_)
   refine Z24 ?_
   refine Bw Tryz.call121 (Ar (Ar ho)) (by simp) Cz (kn (e.kids.getD 1 A8) (hev _ (Kq (by omega)).2.1) (hlv _ (Kq (by omega)).2.1) ((Bj e.text).toNat+1) _ (by first|rfl|(push_cast;rfl)) o (bs++Kp (Gt (Bj e.text).toNat) (e.kids.getD 0 A8) (B0 (e.kids.getD 0 A8))++32::(e.text++[32])) _ (Av (Ar (Ar ho))) (by simp only [Gm,As,Ay,Bn] at *;omega)) ?_
   exact gw
  have h3:(Bj e.text).toNat≠3:=by have:=ht57;simp at this;omega
  have hf2:Gt (Bj e.text).toNat=(Bj e.text).toNat:=by unfold Gt;rw [if_neg h3]
  refine U4 ?_
  refine A7 (h:=Ax (0) (Aa (e.kids.getD 0 A8)) (fun _=>(Kq (by omega)).1)) (hr:=?_)
  refine Z0 ?_
  refine Bw Tryz.call121 ho (by simp) Cz (kn (e.kids.getD 0 A8) (hev _ (Kq (by omega)).2.1) (hlv _ (Kq (by omega)).2.1) (Gt (Bj e.text).toNat) _ (by first|exact hf1|rw [hf2]) o (bs) _ (Av ho) (by simp only [Gm,As,Ay,Bn] at *;omega)) ?_
  refine xn ?_;refine Wf ?_
  refine B4 (h:=Q.sadd (hl:=fun _=>by simp only [Ay,Bn];omega)) (hr:=?_)
  refine B4 (h:=Q.sadd (hl:=fun _=>by simp only [Ay,Bn,As];omega)) (hr:=?_)
  refine Dw ?_
  refine Bw Tryz.call119 (Ar ho) (by simp) Cz (Tv (bs++Kp (Gt (Bj e.text).toNat) (e.kids.getD 0 A8) (B0 (e.kids.getD 0 A8))) (32::(e.text++[32])) (by simp only [Gm,As,Ay,Bn] at *;omega) o _ (Av (Ar ho))) ?_
  refine A2 [0,3,4] ?_;refine Z55 ?_
  refine A7 (h:=Ax (1) (Aa (e.kids.getD 1 A8)) (fun _=>(Kq (by omega)).1)) (hr:=?_)
  refine Z24 ?_
  refine Bw Tryz.call121 (Ar (Ar ho)) (by simp) Cz (kn (e.kids.getD 1 A8) (hev _ (Kq (by omega)).2.1) (hlv _ (Kq (by omega)).2.1) ((Bj e.text).toNat+1) _ (by first|rfl|(push_cast;rfl)) o (bs++Kp (Gt (Bj e.text).toNat) (e.kids.getD 0 A8) (B0 (e.kids.getD 0 A8))++32::(e.text++[32])) _ (Av (Ar (Ar ho))) (by simp only [Gm,As,Ay,Bn] at *;omega)) ?_
  exact gw
 rw [if_neg (by rw [ht53];simp)] at pe
 refine Z1 ?_;refine A2 [0,3,83] ?_
 refine A4 (fun ht83=>?_) (fun ht83=>?_)
 ·have hsl:∀x,((Gl ((e.kids.take x).map B0)).drop 2).length≤((Gl (e.kids.map B0)).drop 2).length:=fun x=>by have:=wn (k:=e.kids) x;rw [Fd,Fd];omega
  have hkl6:=hok.2.1
  rw [pe] at hb
  simp only [Ay,As,Bn,Gm] at hb
  refine Er [0,1,3,0,8,24,63] 6 Aw (by kernel_rfl) ?_;refine Wf ?_
  refine B4 (h:=Q.sadd (hl:=fun _=>by simp only [Ay,Bn];omega)) (hr:=?_)
  refine Dw ?_
  refine Bw Tryz.call119 ho (by simp) Cz (Tv bs (e.text++[40]) (by simp only [Gm,As,Ay,Bn] at *;omega) o _ (Av ho)) ?_
  refine P5 ?_;refine Z60 ?_;refine A2 [0,93,94,95] ?_
  refine Ff (α:=Nat) (fun x=>⟨114,Ao 0 (.ptr o 0) (Ao 93 (.slice false 6 (e.kids.map Aa)) (Ao 94 (A6 (e.kids.length:Nat)) (Ao 95 (A6 (x:Nat)) (fun _=>.any)))),Hp.set o (Tu (bs++(e.text++[40])++(Gl ((e.kids.take x).map B0)).drop 2)),[],[],none⟩) (fun x=>x≤e.kids.length) (fun x=>e.kids.length-x) (0) (Bk _) (E9 (by simp [Gl])) rfl (fun x hx=>?_)
  refine Z3 ?_;refine A2 [0,93,94,95,96] ?_
  refine Gp (fun ht96=>?_) (fun ht96=>?_)
  ·have hlt:x<e.kids.length:=by simpa using ht96
   have hst:=p9 hlt
   have hsl1:=hsl (x+1)
   have hslx:=hsl x
   refine Wi ?_
   refine A7 (h:=Ax (x) (Aa e.kids[x]) (fun _=>Cu hlt)) (hr:=?_)
   refine A7 ?_;refine qi ?_;refine A2 [0,6,7,93,94,95] ?_;refine Z32 ?_;refine A2 [0,7,93,94,95,101] ?_
   refine A4 (fun ht101=>?_) (fun ht101=>?_)
   ·have h0x:0<x:=by simpa using ht101
    rw [if_pos h0x] at hst
    have hstl:=congrArg List.length hst
    simp only [As,Ay,Bn] at hstl
    refine Z55 ?_
    refine Bw Tryz.call119 (Ar ho) (by simp) Cz (Tv (bs++(e.text++[40])++(Gl ((e.kids.take x).map B0)).drop 2) [44,32] (by simp only [Gm,As,Ay,Bn] at *;omega) o _ (Av (Ar ho))) ?_
    refine A2 [0,7,93,94,95] ?_;refine Fv ?_;refine Z31 ?_
    first|refine Bw Tryz.call73 (Ar ho) (by simp) Cz (hev _ (Db hlt) o (bs++(e.text++[40])++(Gl ((e.kids.take x).map B0)).drop 2) _ (Av (Ar ho)) (by simp only [Gm,As,Ay,Bn] at *;omega)) ?_|refine Bw Tryz.call73 (Ar (Ar ho)) (by simp) Cz (hev _ (Db hlt) o (bs++(e.text++[40])++(Gl ((e.kids.take x).map B0)).drop 2++[44,32]) _ (Av (Ar (Ar ho))) (by simp only [Gm,As,Ay,Bn] at *;omega)) ?_
    refine A2 [0,93,94,95] ?_;refine ie ?_;refine A2 [0,93,94,95] ?_;refine Ct (x+1) hlt (by omega) ?_
    simp only [hst,Zs,Bt,Hu]
    exact Es (own:=[]) (fun _=>.refl _) (by repeat (first|exact C6|refine C5 (by first|exact Du|exact O9|(simp [or_imp,forall_and,oid]<;>omega)) ?_)) (by simp) (by simp)
   have h0x:¬0<x:=by simpa using ht101
   rw [if_neg h0x] at hst
   have hstl:=congrArg List.length hst
   simp only [As,Ay,Bn] at hstl
   refine Z9 ?_;refine Z31 ?_
   first|refine Bw Tryz.call73 (Ar ho) (by simp) Cz (hev _ (Db hlt) o (bs++(e.text++[40])++(Gl ((e.kids.take x).map B0)).drop 2) _ (Av (Ar ho)) (by simp only [Gm,As,Ay,Bn] at *;omega)) ?_|refine Bw Tryz.call73 (Ar (Ar ho)) (by simp) Cz (hev _ (Db hlt) o (bs++(e.text++[40])++(Gl ((e.kids.take x).map B0)).drop 2++[44,32]) _ (Av (Ar (Ar ho))) (by simp only [Gm,As,Ay,Bn] at *;omega)) ?_
   refine A2 [0,93,94,95] ?_;refine ie ?_;refine A2 [0,93,94,95] ?_;refine Ct (x+1) hlt (by omega) ?_
   simp only [hst,Zs,Bt,Hu]
   exact Es (own:=[]) (fun _=>.refl _) (by repeat (first|exact C6|refine C5 (by first|exact Du|exact O9|(simp [or_imp,forall_and,oid]<;>omega)) ?_)) (by simp) (by simp)
  have hxe:e.kids.take x=e.kids:=G5 (by simp at ht96;omega)
  have hslx:=hsl x
  refine Z58 ?_;refine Z55 ?_
  refine Bw Tryz.call119 (Ar ho) (by simp) Cz (Tv (bs++(e.text++[40])++(Gl ((e.kids.take x).map B0)).drop 2) [41] (by simp only [Gm,As,Ay,Bn] at *;omega) o _ (Av (Ar ho))) ?_
  refine ax ?_;exact L9 .nores ⟨rfl,by rw [pe,hxe]<;>simp⟩
 exfalso
 have h6:=kall
 simp at ht12 ht21 ht29 ht41 ht53 ht83
 omega

theorem da {e:Expr} (h:C1 e=true):e.text.length≤16∧e.kids.length≤8:=by
 cases Gc h with
 | val v hp h0=>exact ⟨by simp [Cs,Expr.text],by simp [Cs,Expr.kids]⟩
 | name t ht =>
  refine ⟨?_,by simp [B6,Expr.kids]⟩
  show t.length≤16
  cases t with
  | nil=>simp
  | cons c r =>
   simp only [J3,Ak,decide_eq_true_eq] at ht
   exact ht.1.1.1
 | neg a=>exact ⟨by simp [F1,Expr.text],by simp [F1,Expr.kids]⟩
 | no a=>exact ⟨by simp [F1,Expr.text],by simp [F1,Expr.kids]⟩
 | bin t a b ht=>exact ⟨by have:=Zm ht;show t.length≤16;omega,by simp [Gx,Expr.kids]⟩
 | call t k ha =>
  refine ⟨by have:=Tn ha;show t.length≤16;omega,?_⟩
  show k.length≤8
  rcases Eb ha with ⟨_,e⟩|⟨_,e⟩|⟨_,e⟩|⟨_,e⟩|⟨_,e⟩|⟨_,e⟩|⟨_,e⟩|⟨_,e⟩<;>omega
theorem Vi:∀{l:List Expr} {y:Expr},y∈l→depthE y≤Ea l
 | a::r,y,h=>by
  rw [Ea]
  rcases By.1 h with rfl|h
  ·omega
  have:=Vi h
  omega
theorem fm:∀(n:Nat) (e:Expr),depthE e≤n→B9 C1 e=true→okE n e
 | 0,e,h,_=>by rw [Jn] at h;omega
 | n+1,e,h,hn=>by
  rw [Cj,Ak] at hn
  rw [Jn] at h
  have hs:=da hn.1
  refine ⟨by omega,by omega,fun y hy=>fm n y (by have:=Vi hy;omega) ((Ba _ _).1 hn.2 y hy)⟩
theorem Jt {e:Expr} (h:Eg e=true):okE 30 e∧sizeE e≤300:=by
 have h1:=It h
 unfold Eg at h
 simp only [Ak,decide_eq_true_eq] at h
 exact ⟨fm 30 e h.1.1 h1,h.1.2⟩
theorem c34 (n:Nat) (e:Expr) (hok:okE n e) (hn:n≤1048576) (hg:B9 Cg e=true) (Hp:List AObj):AFun Tryz.prog 34 [Aa e] Hp (.tup [Ah (Qk e).1,A6 (Qk e).2]):=by
 refine Aq [.tmp 2,.tmp 3] [0] Tryz.func34 Tryz.ntmps34 (fun d=>?_)
 refine Z14 ?_;refine A2 [1] ?_;refine Z37 ?_;refine Ac Tryz.call38 (c38 n e hok hn _) ?_;refine A7 ?_;refine A2 [1,7] ?_
 refine A4 (fun ht7=>?_) (fun ht7=>?_)
 ·have hsh:Qk e=([],1):=if_pos ht7
  refine Z1 ?_;refine Z20 ?_;exact xa
 have hnr:¬(!(Au e))=true:=by rw [ht7];simp
 have hr:Eg e=true:=by rw [←E6];simpa using ht7
 have hps:=Zn hr hg
 refine Z9 ?_;refine Ey ?_;refine Mt (places:=#[(0,2)]) jU (fun w=>by simp) jZ ?_;refine R.box ?_;refine A7 ?_;refine A2 [1,4] ?_;refine Ey ?_;refine R.toBld 0 120 5 ?_;refine Z0 ?_
 refine Ry (n:=0) (x:=Tu (B0 e)) Tryz.call73 (c73 n e hok (It hr) hg (oid Hp.length 0) [] _ (by rw [Bl];rfl) (by simp only [Gm,Bn];omega)) ?_
 refine A2 [4] ?_;refine Z39 ?_
 refine Ac Tryz.call74 (c74 (B0 e) (oid Hp.length 0) _ (by rw [Bl];rfl)) ?_
 refine A7 ?_;refine A2 [4,17] ?_
 refine A4 (fun ht17=>?_) (fun ht17=>?_)
 ·have hsh:Qk e=([],3):=by unfold Qk;rw [if_neg hnr,if_pos ht17]
  refine Z1 ?_;refine Z20 ?_;exact xa
 have hsh:Qk e=(B0 e,0):=by unfold Qk;rw [if_neg hnr,if_neg (by rw [ht17];simp)]
 refine U4 ?_
 refine Ry (n:=0) (x:=.cells 120 [.any,.any]) Tryz.call75 (c75 (B0 e) (oid Hp.length 0) _ (by rw [Bl];rfl)) ?_
 refine Z0 ?_;refine Z20 ?_;exact yh

/-- The pairs that peel yields. -/
def pkI (x y:Expr):Nat→Expr×Expr
 | 0=>(x,y)
 | k+1=>if (pkI x y k).1.op==2 then pkI x y k else (Ei (pkI x y k).1 (pkI x y k).2).getD (pkI x y k)
theorem ACv {x y:Expr} (h:(!(apS x).2)=true):Ei x y=none:=by
 unfold Ei
 rw [ot,if_neg (by simpa using h)]
theorem ACw {x y:Expr} (h:(!(apS x).2)=false) (h2:((!(Ek x (apS x).1 y).2) || !Au (Ek x (apS x).1 y).1)=true):Ei x y=none:=by
 unfold Ei
 rw [ot,if_pos (by simpa using h)]
 simp only
 rw [fk]
 cases h1:(Ek x (apS x).1 y).2 with
 | false=>rfl
 | true =>
  rw [h1] at h2
  rw [if_pos rfl]
  simp only
  rw [if_neg (by simpa using h2)]
theorem ACx {x y:Expr} (h:(!(apS x).2)=false) (h2:((!(Ek x (apS x).1 y).2) || !Au (Ek x (apS x).1 y).1)=false):Ei x y=some ((apS x).1.e,(Ek x (apS x).1 y).1):=by
 have h3:(Ek x (apS x).1 y).2=true∧Au (Ek x (apS x).1 y).1=true:=by simpa using h2
 unfold Ei
 rw [ot,if_pos (by simpa using h)]
 simp only
 rw [fk,if_pos h3.1]
 simp only
 rw [if_pos h3.2]
/-- What may be peeled. -/
structure PkOk (p:Expr×Expr):Prop where
 okx:okE 31 p.1
 rng:B9 Cg p.1=true
 size:sizeE p.1≤1048576
 oky:okE 30 p.2
theorem fp {x:Expr} (h:B9 Cg x=true) (i:Nat):B9 Cg (x.kids.getD i A8)=true:=by
 rw [Ch]
 cases hk:x.kids[i]? with
 | none=>rfl
 | some e =>
  rw [Cj,Ak] at h
  exact (Ba _ _).1 h.2 e (B3 hk)
theorem ACy {x:Expr} (h:okE 31 x) (hr:B9 Cg x=true):okE 30 (apS x).1.c∧B9 Cg (apS x).1.c=true:=by
 have n1:okE 30 A8:=Lk (by decide)
 unfold apS
 repeat' split
 ·exact ⟨n1,rfl⟩
 ·exact ⟨n1,rfl⟩
 ·exact ⟨Pt (by decide) h 1,fp hr 1⟩
 exact ⟨Pt (by decide) h 0,fp hr 0⟩
theorem Rd {n:Nat} {x y:Expr} {t:Str} (ht:t.length≤1048576) (hx:okE n x) (hy:okE n y):okE (n+1) (G4 x t y):=⟨ht,by show 2≤1048576;decide,fun z hz=>by
 have hz:z=x∨z=y:=by simpa [G4,Expr.kids] using hz
 rcases hz with rfl|rfl
 ·exact hx
 exact hy⟩
theorem fq {n:Nat} {v:Val}:okE (n+1) (Cs v):=⟨by show ([]:Str).length≤_;decide,by show ([]:List Expr).length≤_;decide,fun z hz=>by cases hz⟩
theorem Vj {n:Nat} {x:Expr} {t:Str} (ht:t.length≤1048576) (hx:okE n x):okE (n+1) (D6 t [x]):=⟨ht,by show 1≤1048576;decide,fun z hz=>by
 have hz:z=x:=by simpa [D6,Expr.kids] using hz
 subst hz;exact hx⟩
theorem ko {n:Nat} {x y:Expr} {t:Str} (ht:t.length≤1048576) (hx:okE n x) (hy:okE n y):okE (n+1) (D6 t [x,y]):=⟨ht,by show 2≤1048576;decide,fun z hz=>by
 have hz:z=x∨z=y:=by simpa [D6,Expr.kids] using hz
 rcases hz with rfl|rfl
 ·exact hx
 exact hy⟩
theorem t6 {x y:Expr} {s:Sd} (hy:okE 30 y):okE 33 (Ek x s y).1:=by
 have n1:okE 33 A8:=Lk (by decide)
 have u:∀{z:Expr},okE 31 z→okE 33 z:=fun h=>Fj (by decide) h
 have c1:okE 30 (csS s.c 1).1:=fq
 unfold Ek
 split
 ·refine u ⟨by show ([]:Str).length≤_;decide,by show 1≤1048576;decide,fun z hz=>?_⟩
  have hz:z=y:=by simpa [Expr.kids] using hz
  subst hz;exact hy
 split
 ·exact u (Vj (by decide) hy)
 split
 ·unfold Ni
  repeat' split
  ·exact n1
  ·exact u (Rd (by decide) hy c1)
  ·exact u (Rd (by decide) c1 hy)
  exact u (Rd (by decide) hy c1)
 split
 ·unfold Lp
  split
  ·exact n1
  refine ko ?_ (Fj (by decide) hy) (Rd (by decide) (Vj (by decide) hy) fq)
  split<;>decide
 exact n1
theorem PkOk.next {x y:Expr} (h:PkOk (x,y)) {p:Expr×Expr} (hp:Ei x y=some p):PkOk p∧sizeE p.1<sizeE x:=by
 have hr:=To hp
 unfold Ei at hp
 cases ha:Hy x with
 | none=>rw [ha] at hp;cases hp
 | some s =>
  rw [ha] at hp
  simp only at hp
  cases hu:Oe x s y with
  | none=>rw [hu] at hp;cases hp
  | some z =>
   rw [hu] at hp
   simp only at hp
   split at hp
   ·injection hp with hp
    subst hp
    have hk:=Xb ha
    have h1:=h.rng
    rw [Cj,Ak] at h1
    have hs:sizeE s.e<sizeE x:=by
     have:=R9 hk
     rw [Fi x]
     omega
    have hsz:=h.size
    refine ⟨⟨Fj (by decide) (h.okx.2.2 _ hk),(Ba _ _).1 h1.2 _ hk,?_,?_⟩,hs⟩
    ·show sizeE s.e≤_
     have:sizeE x≤1048576:=hsz
     omega
    exact (Jt (by rw [←E6];exact hr)).1
   cases hp
theorem fu {x y:Expr} {k:Nat} {p:Expr×Expr} (h2:(pkI x y k).1.op≠2) (h:Ei (pkI x y k).1 (pkI x y k).2=some p):pkI x y (k+1)=p:=by
 rw [pkI,if_neg (by simpa using h2),h]
 rfl
theorem c83 (l ox oy:Nat) (x y:Expr) (h0k:PkOk (x,y)) (U T:Nat→List AObj) (N:Nat→Prop) (Z:List AObj→Prop) (hlen:∀k,(U k).length=(U 0).length) (hlenT:∀k,(T k).length=(U 0).length) (hll:l<(U 0).length) (hox:ox<(U 0).length) (hoy:oy<(U 0).length) (hne:oy≠ox)
  (hlw:∀k,∀z∈U k,ObjLow (U 0).length z) (hlT:∀k,∀z∈T k,ObjLow (U 0).length z) (h0:N 0) (hxU:∀k,(U k)[ox]? = some (.cells 26 (Bg (pkI x y k).1))) (hyU:∀k,(U k)[oy]? = some (.cells 26 (Bg (pkI x y k).2))) (hxT:∀k,(T k)[ox]? = some (.cells 26 (Bg (pkI x y k).1))) (hyT:∀k,(T k)[oy]? = some (.cells 26 (Bg (pkI x y k).2)))
  (hn:∀k,((T k).set oy (.cells 26 (Bg (pkI x y (k+1)).2))).set ox (.cells 26 (Bg (pkI x y (k+1)).1))=U (k+1))
  (hy:∀k X,N k→AYield Tryz.prog l [Aa (pkI x y k).1,Aa (pkI x y k).2] (U k++X) (fun b H'=>b=true∧H'=T k++X))
  (hN:∀k p,N k→(pkI x y k).1.op≠2→Ei (pkI x y k).1 (pkI x y k).2=some p→N (k+1))
  (hE:∀k z,N k→((pkI x y k).1.op=2∨Ei (pkI x y k).1 (pkI x y k).2=none)→Z (T k)∧Z ((T k).set oy (.cells 26 (Bg z)))):ACall Tryz.prog 83 [.yield l,.ptr ox 0,.ptr oy 0] (U 0) (fun _ H'=>Z H'):=by
 refine Aq [] [0,1,2] Tryz.func83 Tryz.ntmps83 (fun d=>?_)
 refine Ff (α:=Nat) (fun k=>⟨38,Ao 0 (.yield l) (Ao 1 (.ptr ox 0) (Ao 2 (.ptr oy 0) (fun _=>.any))),U k,[],[],none⟩) (fun k=>N k∧PkOk (pkI x y k)) (fun k=>sizeE (pkI x y k).1) (0) ⟨h0,h0k⟩ (E9 (by simp)) rfl (fun k hx=>?_)
 refine Z37 ?_
 refine A7 (h:=P2 (hxU k)) (hr:=?_)
 refine A7 (h:=P2 (hyU k)) (hr:=?_)
 refine R.yield (hy k _ hx.1) ?_
 intro b V O hV hb
 obtain ⟨rfl,hH⟩:=hb
 obtain ⟨rfl,rfl⟩:=Zx hH (by rw [hV,hlen,hlenT])
 refine ⟨fun _=>by rw [hlenT];exact hlT _,fun o ho=>by simp at ho,?_⟩
 refine A7 ?_;refine C4 ?_
 refine C4 (h:=Ep (hxT k)) (hr:=?_)
 refine Z63 ?_;refine A2 [0,1,2,14] ?_
 refine A4 (fun ht14=>?_) (fun ht14=>?_)
 ·have h2:(pkI x y k).1.op≠2:=by simpa using ht14
  refine Z9 ?_;refine I5 ?_;refine Ey ?_
  have hac:=ACy hx.2.okx hx.2.rng
  refine A7 (h:=P2 (hxT k)) (hr:=?_)
  refine Ac Tryz.call84 (c84 30 (by decide) (pkI x y k).1 hx.2.okx (by decide) hx.2.size _) ?_;refine Z82 ?_;refine A2 [0,1,2,4,5] ?_;refine Z32 ?_;refine A2 [0,1,2,4,21] ?_
  refine A4 (fun ht21=>?_) (fun ht21=>?_)
  ·have hz:=(hE k A8 hx.1 (.inr (ACv ht21))).1
   refine Z69 ?_;refine Xy ?_;exact A5 .nores (hp:=hz)
  refine Z9 ?_;refine Z96 ?_
  refine A7 (h:=P2 (hxT k)) (hr:=?_)
  refine A7 ?_
  refine A7 (h:=P2 (hyT k)) (hr:=?_)
  refine Ac Tryz.call85 (c85 30 (pkI x y k).1 (apS (pkI x y k).1).1 hac.1 (by decide) hac.2 (pkI x y k).2 _) ?_;refine Z24 ?_
  refine H3 jS (hyT k) ?_ ?_
  ·first|exact J8|simp [Ag]
  refine A7 ?_;refine A2 [0,1,2,4,5] ?_;refine Z14 ?_
  refine C4 (h:=P2 (Ar (hyT k))) (hr:=?_)
  refine Co Tryz.call38 (fun hB=>c38 33 (Ek (pkI x y k).1 (apS (pkI x y k).1).1 (pkI x y k).2).1 (t6 hx.2.oky) (by decide) _) ?_;refine Z63 ?_;refine A2 [0,1,2,4,35] ?_
  refine A4 (fun ht35=>?_) (fun ht35=>?_)
  ·have hz:=(hE k (Ek (pkI x y k).1 (apS (pkI x y k).1).1 (pkI x y k).2).1 hx.1 (.inr (ACw ht21 ht35))).2
   refine Z69 ?_;refine Xy ?_;exact A5 .nores (hp:=hz)
  have hst:=ACx ht21 ht35
  have hpn:=fu h2 hst
  have hnx:=hx.2.next hst
  refine Z9 ?_;refine Z31 ?_
  refine H3 jS (zt (hxT k) hne) ?_ ?_
  ·first|exact J8|simp [Ag]
  refine A2 [0,1,2] ?_;refine Jc ?_
  refine Ct (k+1) ⟨hN k _ hx.1 h2 hst,by rw [hpn];exact hnx.1⟩ (by rw [hpn];have:=hnx.2;omega) ?_
  have e:=hn k
  rw [hpn] at e
  rw [e]
  exact Es (own:=[]) (fun _=>.refl _) (by repeat (first|exact C6|refine C5 (by have:=hlen (k+1);simp;omega) ?_)) (by simp) (by simp)
 have h2:(pkI x y k).1.op=2:=by simpa using ht14
 refine Z95 ?_;refine K.lpE ?_;exact L9 .nores (hp:=(hE k A8 hx.1 (.inl h2)).1)

/-! fuse: trees in columns' places. -/
mutual
def putF (c:List Col) (l:List Expr):Expr→Option Expr
 | .mk o t v k=>if o==2 then (if Ez t c<0 then none else some (l.getD (Ez t c).toNat A8)) else (u7 c l k).map fun k'=>.mk o t v k'
def u7 (c:List Col) (l:List Expr):List Expr→Option (List Expr)
  | []=>some []
  | e::r=>match putF c l e with
    | none=>none
    | some y=>(u7 c l r).map fun s=>y::s
 end
/-! fuse.Forth and plan.Text. -/
/-! The text. -/
/-! ONE LINE EACH. -/
/-! SoundJoins: one behind the other, in one. -/
/-! image: rows forth and back. -/
theorem kp {e:Expr} (h:C1 e=true):J5 e=true:=by
 unfold J5
 rw [Gs] at h
 cases hk:(e.op==1) with
 | false=>rfl
 | true =>
  show C9 e.val=true
  have e1:e.op=1:=by simpa using hk
  cases e with
  | mk o t v k =>
   have e1:o=1:=e1
   subst e1
   rw [Fk] at h
   simp at h
   exact h.1.1.1
mutual
theorem Zt:∀e:Expr,B9 C1 e=true→B9 J5 e=true
 | .mk o t v k,h=>by
  rw [Cj,Ak] at h ⊢
  exact ⟨kp h.1,Vk k h.2⟩
theorem Vk:∀k:List Expr,Jm C1 k=true→Jm J5 k=true
 | [],_=>rfl
 | e::r,h=>by
  rw [Jm,Ak] at h ⊢
  exact ⟨Zt e h.1,Vk r h.2⟩
end
theorem pa {x:Expr} {c:List Col} {row:List Val} (hf:∀v∈row,Fine v) (hr:B9 Cg x=true):Fine (Dh x c row).1:=by
 show Fine (Z7 Aj x c row).1
 unfold Z7
 split
 ·exact Kc
 rename_i h
 simp only [Dj,Ju,not_or,Bool.not_eq_false] at h
 exact Gk hf x (Zt x (It (by rw [←E6];exact h.1))) hr
theorem pc {l:List Val} (h:∀v∈l,Fine v):∀v∈l, -9223372036854775808≤v.n∧v.n≤9223372036854775807:=fun v hv=>⟨(h v hv).lo,(h v hv).hi⟩
/-! slices.Backward of moves. -/
theorem kq {x y:Expr} {p:Expr×Expr} (hp:Ei x y=some p):sizeE p.1<sizeE x:=by
 unfold Ei at hp
 cases ha:Hy x with
 | none=>rw [ha] at hp;cases hp
 | some s =>
  rw [ha] at hp
  simp only at hp
  cases hu:Oe x s y with
  | none=>rw [hu] at hp;cases hp
  | some z =>
   rw [hu] at hp
   simp only at hp
   split at hp
   ·injection hp with hp
    subst hp
    have:=R9 (Xb ha)
    rw [Fi x]
    show sizeE s.e<_
    omega
   cases hp
/-- Where peel stands. -/
structure PkN (x y:Expr) (k:Nat):Prop where
 eq:E8 (sizeE x) x y=E8 (sizeE x-k) (pkI x y k).1 (pkI x y k).2
 le:sizeE (pkI x y k).1≤sizeE x-k
theorem PkN.zero {x y:Expr}:PkN x y 0:=⟨rfl,An _⟩
theorem PkN.next {x y:Expr} {k:Nat} {p:Expr×Expr} (h:PkN x y k) (h2:(pkI x y k).1.op≠2) (hs:Ei (pkI x y k).1 (pkI x y k).2=some p):PkN x y (k+1):=by
 have hl:=kq hs
 have hle:=h.le
 have e:=fu h2 hs
 obtain ⟨m,hm⟩:∃m,sizeE x-k=m+1:=⟨sizeE x-k-1,by omega⟩
 have hm2:sizeE x-(k+1)=m:=by omega
 refine ⟨?_,?_⟩
 ·rw [h.eq,hm,E8,if_neg (by simpa using h2),hs,hm2,e]
 rw [e,hm2];omega
theorem PkN.stop {x y:Expr} {k:Nat} (h:PkN x y k) (hs:(pkI x y k).1.op=2∨Ei (pkI x y k).1 (pkI x y k).2=none):E8 (sizeE x) x y=pkI x y k:=by
 rw [h.eq]
 cases sizeE x-k with
 | zero=>rfl
 | succ m =>
  rw [E8]
  split
  ·rfl
  rename_i h2
  rcases hs with hs|hs
  ·exact absurd (by simpa using hs) h2
  rw [hs]
section
variable {x:Expr} {a b:Str}
theorem ACz (h:(((!Au x) || !Dx a) || !Dx b)=true):ofI x a b=none:=by unfold ofI;rw [Et,Et] at h;exact if_pos h
theorem AD0 (h:(((!Au x) || !Dx a) || !Dx b)=false) (h2:(!(((E8 (sizeE x) x (B6 b)).1.op==2)&&((E8 (sizeE x) x (B6 b)).1.text==a)))=true):ofI x a b=none:=by
 unfold ofI
 rw [Et,Et] at h
 rw [if_neg (by rw [h];simp),if_neg (fun e=>by rw [e] at h2;cases h2)]
theorem AD1 (h:(((!Au x) || !Dx a) || !Dx b)=false) (h2:(!(((E8 (sizeE x) x (B6 b)).1.op==2)&&((E8 (sizeE x) x (B6 b)).1.text==a)))=false):ofI x a b=some (E8 (sizeE x) x (B6 b)).2:=by
 unfold ofI
 rw [Et,Et] at h
 rw [if_neg (by rw [h];simp),if_pos (by simpa using h2)]
end
abbrev Ue:List AV:=[A6 0,Ah [],A6 0,A6 0,Ah [],.nil]
/-- What lies in out and ok ahead of round k. -/
def Tw (x y:Expr):Nat→List AV
 | 0=>Ue
 | k+1=>Bg (pkI x y k).2
def okP (x y:Expr) (a:Str):Nat→Bool
 | 0=>false
 | k+1=>((pkI x y k).1.op==2)&&((pkI x y k).1.text==a)
theorem pg {n:Nat} {x y:Expr}:∀k,ObjLow n (.cells 26 (Tw x y k))
 | 0=>O6
 | k+1=>J8
theorem ph {x y e:Expr} {k:Nat}:Bz (Tw x y k) 0 (Bg e)=Bg e:=by cases k<;>rfl
theorem pi {x y:Expr}:∀k,(Tw x y k).length=6
 | 0=>rfl
 | k+1=>rfl
theorem c14 (n:Nat) (x:Expr) (hok:okE n x) (hn:n≤1048576) (hg:B9 Cg x=true) (a b:Str) (ha:a.length≤1048576) (hb:b.length≤1048576) (Hp:List AObj):AFun Tryz.prog 14 [Aa x,Ah a,Ah b] Hp (.tup [Aa ((ofI x a b).getD A8),B8 (ofI x a b).isSome]):=by
 refine Aq [.cell 6 26,.tmp 7] [0,1,2] Tryz.func14 Tryz.ntmps14 (fun d=>?_)
 refine Z1 ?_;refine Z43 ?_;refine A2 [2,3,4,6] ?_;refine Z37 ?_;refine Ac Tryz.call38 (c38 n x hok hn _) ?_;refine Y0 ?_;refine Co Tryz.call40 (fun hB=>c40 a ha _) ?_;refine Z35 ?_;refine C4 ?_;refine Co Tryz.call40 (fun hB=>c40 b hb _) ?_;refine Z63 ?_;refine A2 [2,3,4,6,24] ?_
 refine A4 (fun ht24=>?_) (fun ht24=>?_)
 ·have hm:=ACz ht24
  refine Z25 ?_;refine Ef 25 _ F4 ?_;refine Z62 ?_;exact Z90
 have hro:=Jt (e:=x) (by rw [←E6];exact (show (Au x=true∧Dx a=true)∧Dx b=true by simpa using ht24).1.1)
 refine Z9 ?_;refine Z26 ?_;refine A2 [2,3,4,6,8] ?_;refine Ey ?_
 refine Mx (fun hlow=>?_)
 have hpk:PkOk (x,(B6 b)):=⟨Fj (by decide) hro.1,hg,by show sizeE x≤_;have:=hro.2;omega,⟨by show b.length≤_;exact hb,by show ([]:List Expr).length≤_;decide,fun z hz=>by cases hz⟩⟩
 refine Z21 ?_;refine A2 [2,3,4,6,8,9] ?_;refine In ?_;refine Mu [0,0,2,7] 3 Aw (by kernel_rfl) ?_;refine Z13 ?_;refine Cy Tryz.call42 (c42 b _) ?_;refine Dw ?_;refine R.callO Tryz.call41 (c41 x (B6 b) _) ?_
 rintro _ _ ⟨rfl,rfl⟩
 refine ⟨[.cells 26 (Bg x),.cells 26 (Bg (B6 b))],by simp,?_⟩
 rw [show oid (Hp++[AObj.cells 26 Ue,AObj.cells 26 Ue,AObj.cells 4 [B8 false]]).length 0=oid Hp.length 3 by simp [oid],show oid (Hp++[AObj.cells 26 Ue,AObj.cells 26 Ue,AObj.cells 4 [B8 false]]).length 1=oid Hp.length 4 by simp [oid]]
 simp only [E0,Dz]
 refine A2 [4,6,8,9,29] ?_;refine I5 ?_
 refine My (m:=5) Tryz.call83 (fun FR as' bd' hFR has hbd=>?_)
 have hFRl:∀s,Low (Hp.length+7) (FR s):=by
  intro s
  rw [hFR]
  refine Ou ?_
  revert s
  repeat (first|exact C6|refine C5 (by first|(simp [oid,or_imp,forall_and];done)|(simp [oid,or_imp,forall_and]<;>omega)) ?_)
 have hOl:∀(k:Nat) {ok:Bool} {u v:Expr} {lp:AObj},ObjLow (Hp.length+7) lp→∀z∈Hp++[AObj.cells 26 Ue,AObj.cells 26 (Tw x (B6 b) k),AObj.cells 4 [B8 (ok)],AObj.cells 26 (Bg u),AObj.cells 26 (Bg v),AObj.defs,lp],ObjLow (Hp.length+7) z:=by
  intro k ok u v lp hlp z hz
  refine M0 (fun z hz=>Wr (by omega) (hlow z hz)) (fun z hz=>?_) z hz
  simp only [By,Ha,or_false] at hz
  rcases hz with rfl|rfl|rfl|rfl|rfl|rfl|rfl
  ·exact O6
  ·exact pg k
  ·intro y hy;rw [Bh.1 hy];simp
  ·exact J8
  ·exact J8
  ·trivial
  exact hlp
 refine ⟨_,c83 (oid Hp.length 6) (oid Hp.length 3) (oid Hp.length 4) x (B6 b) hpk (fun k=>Hp++[AObj.cells 26 Ue,AObj.cells 26 (Tw x (B6 b) k),AObj.cells 4 [B8 (okP x (B6 b) a k)],AObj.cells 26 (Bg (pkI x (B6 b) k).1),AObj.cells 26 (Bg (pkI x (B6 b) k).2),AObj.defs,AObj.loop LoopState.ready none FR 46 #[30,31] as' bd' (oid Hp.length 5)]) (fun k=>Hp++[AObj.cells 26 Ue,AObj.cells 26 (Tw x (B6 b) (k+1)),AObj.cells 4 [B8 (okP x (B6 b) a (k+1))],AObj.cells 26 (Bg (pkI x (B6 b) k).1),AObj.cells 26 (Bg (pkI x (B6 b) k).2),AObj.defs,AObj.loop LoopState.ready none FR 46 #[30,31] as' bd' (oid Hp.length 5)]) (PkN x (B6 b)) (fun V=>∃u v:Expr,V=Hp++[AObj.cells 26 Ue,AObj.cells 26 (Bg (E8 (sizeE x) x (B6 b)).2),AObj.cells 4 [B8 ((((E8 (sizeE x) x (B6 b)).1.op==2)&&((E8 (sizeE x) x (B6 b)).1.text==a)))],AObj.cells 26 (Bg u),AObj.cells 26 (Bg v),AObj.defs,AObj.loop LoopState.ready none FR 46 #[30,31] as' bd' (oid Hp.length 5)]) (fun k=>by simp) (fun k=>by simp) (by simp [oid]) (by simp [oid]) (by simp [oid]) (Dr (by decide)) (fun k=>(fun z hz=>by rw [As];exact hOl k (lp:=AObj.loop LoopState.ready none FR 46 #[30,31] as' bd' (oid Hp.length 5)) (by exact ⟨hFRl,by simp [oid]⟩) z hz)) (fun k=>(fun z hz=>by rw [As];exact hOl (k+1) (lp:=AObj.loop LoopState.ready none FR 46 #[30,31] as' bd' (oid Hp.length 5)) (by exact ⟨hFRl,by simp [oid]⟩) z hz)) .zero (fun k=>by rw [Bl];rfl) (fun k=>by rw [Bl];rfl) (fun k=>by rw [Bl];rfl) (fun k=>by rw [Bl];rfl) (fun k=>by simp only [Bt,Fl,E0,Dz,List.set_cons_succ,List.set_cons_zero]) (fun k X hN=>?_) (fun k p hN h2 hs=>hN.next h2 hs) (fun k z hN hs=>?_),?_⟩
 rotate_left
 ·have e:=hN.stop hs
  refine ⟨⟨(pkI x (B6 b) k).1,(pkI x (B6 b) k).2,?_⟩,⟨(pkI x (B6 b) k).1,z,?_⟩⟩
  ·rw [e];rfl
  simp only [Bt,Fl,E0,Dz,List.set_cons_succ,List.set_cons_zero]
  rw [e];rfl
 rotate_left
 ·generalize hV:Hp++[AObj.cells 26 Ue,AObj.cells 26 (Tw x (B6 b) k),AObj.cells 4 [B8 (okP x (B6 b) a k)],AObj.cells 26 (Bg (pkI x (B6 b) k).1),AObj.cells 26 (Bg (pkI x (B6 b) k).2),AObj.defs,AObj.loop LoopState.ready none FR 46 #[30,31] as' bd' (oid Hp.length 5)]++X=V
  have hL:V[oid Hp.length 6]? = some (AObj.loop LoopState.ready none FR 46 #[30,31] as' bd' (oid Hp.length 5)):=by rw [←hV,Bt,Bl];rfl
  have hA0:V[oid Hp.length 1]? = some (AObj.cells 26 (Tw x (B6 b) k)):=by rw [←hV,Bt,Bl];rfl
  have hB0:V[oid Hp.length 2]? = some (AObj.cells 4 [B8 (okP x (B6 b) a k)]):=by rw [←hV,Bt,Bl];rfl
  refine Ms (pd:=none) (fr:=FR) (sz:=46) (ps:=#[30,31]) (df:=oid Hp.length 5) (asg:=as') (bd:=bd') hL rfl (by decide) (fun d=>?_)
  subst hFR has hbd
  refine G9 [4,8,9,30,31] ?_
  generalize hXk:(pkI x (B6 b) k).1=xk
  generalize hYk:(pkI x (B6 b) k).2=yk
  refine i8 ?_;refine A2 [4,8,9,10,31] ?_;refine If ?_;refine Z21 ?_;refine A2 [4,8,9,10,11] ?_
  refine ⟨rfl,none,hL,?_⟩
  generalize hbz:(AObj.loop LoopState.busy _ _ _ _ _ _ _)=bz
  have hA:(V.set (oid Hp.length 6) bz)[oid Hp.length 1]? = some (AObj.cells 26 (Tw x (B6 b) k)):=by rw [El (Dr (by decide))];exact hA0
  have hB:(V.set (oid Hp.length 6) bz)[oid Hp.length 2]? = some (AObj.cells 4 [B8 (okP x (B6 b) a k)]):=by rw [El (Dr (by decide))];exact hB0
  refine I5 ?_
  refine W.drawY0 [0,0,2,6,14,30,62,30,254,510,31,2047] [10] [.q 10 [] [],.s [] (some 0) [] []] (fun B=>(V.set (oid Hp.length 6) bz).set (oid Hp.length 1) (if B 0=true then AObj.cells 26 (Bg yk) else AObj.cells 26 (Tw x (B6 b) k))) (fun _=>[AObj.cells 26 (Bg xk),AObj.cells 26 (Bg yk)]) Aw (by kernel_rfl) (by simp only [Bs,if_false];exact Ho hA) rfl (fun B=>by simp) ?_
  apply Y.q
  ·intro B hT hF
   refine Wf ?_;refine Z72 ?_;refine Z72 ?_;exact Z61
  case hTF=>decide
  refine Y.storeUp (o:=oid Hp.length 1) (t':=26) (ys:=Bg yk) (cs:=Tw x (B6 b) k) (cs':=Bg yk) Tryz.sizeOf26 (fun B hB=>⟨by simp only [hB];exact Ar hA,by simp only [upd,if_true,De],rfl,J8 (t:=26)⟩) ?_ (hfit:=by rw [pi];decide) (hput:=ph)
  refine H5 (tn:=[10]) (U:=((V.set (oid Hp.length 6) bz).set (oid Hp.length 1) (AObj.cells 26 (Bg yk)))) ?_
  refine H3 jS (zt hB (Dr (by decide))) ?_ ?_
  ·simp
  refine ax ?_
  subst hbz
  refine ur ?_
  refine ⟨rfl,?_⟩
  subst hXk hYk
  subst hV
  simp only [Bt,Fl,E0,Dz,List.set_cons_succ,List.set_cons_zero]
  rfl
 rintro r H' ⟨u,v,rfl⟩
 refine ⟨Hp,_,_,_,rfl,rfl,fun h=>h,?_,rfl,by simp,?_⟩
 ·intro o ho
  have:o=oid Hp.length 5:=by simpa using ho
  subst this
  rw [Bl]
  rfl
 refine Z16 ?_;refine Z32 ?_;refine A2 [6,8,43] ?_
 refine A4 (fun ht43=>?_) (fun ht43=>?_)
 ·have hm:=AD0 ht24 ht43
  refine Z25 ?_;refine Ef 44 _ F4 ?_;refine Z62 ?_;exact Z90
 have hm:=AD1 ht24 ht43
 refine Z75 ?_;refine Z62 ?_;exact A5 (Ab (Ai jA jS) A3) ⟨by rw [hm];simp only [Option.getD_some,Ad];try rfl,rfl⟩ (hlow:=by simp [or_imp,forall_and,Ag])

theorem c33 (s:Str) (hs:s.length≤1048576) (hcl:∀n Dv,n≤30→DeepC (Dn s).1 Dv n→V9 (Dn s).1 Dv n) (Hp:List AObj):AFun Tryz.prog 33 [Ah s] Hp (.tup [Aa (Gu s).1,.agg [A6 (Gu s).2.1,A6 (Gu s).2.2]]):=by
 refine Aq [.cell 2 26,.cell 3 69] [0] Tryz.func33 Tryz.ntmps33 (fun d=>?_)
 refine Z26 ?_;refine Ij jZ ?_;refine A2 [0,2,3] ?_;refine Z3 ?_;refine Ac Tryz.call71 (c71 s hs _) ?_;refine Z24 ?_;refine qi ?_;refine A2 [2,3,4,5] ?_;refine Z39 ?_;refine A2 [2,3,4,5,15] ?_
 refine A4 (fun ht15=>?_) (fun ht15=>?_)
 ·have e:Gu s=(A8,(Dn s).2.1,((Dn s).2.2:Int)):=if_pos ht15
  refine H4 [0,0,1,7] [2] [.q 2 [] [],.s [] (some 0) [] []] (fun _=>Hp) (fun _=>[.cells 26 [A6 0,Ah [],A6 0,A6 0,Ah [],.nil],.cells 69 [A6 0,A6 0],.cells 69 [A6 (Dn s).2.1,A6 ((Dn s).2.2:Nat)]]) Aw (by kernel_rfl) rfl rfl (fun _=>rfl) ?_
  apply Y.q
  ·intro B hT hF
   exact wx
  case hTF=>decide
  refine Z79 ?_;refine La 0 5 6 ?_;refine gy ?_;exact Z81
 have e0:¬((Dn s).2.1 != 0)=true:=by rw [ht15];simp
 have hz:(Dn s).2.1=0:=by simpa using ht15
 have hle:=ef hz
 have hlen:=eu hz
 have hpos:=hle.pos
 refine Z75 ?_
 refine Ac Tryz.call72 (c72 (Dn s).1 0 hpos hle (by have:=hlen;omega) hcl _) ?_
 refine Z64 ?_;refine Ij jZ ?_;refine Z6 ?_;refine Jj ?_;refine A2 [2,3,4,5,6,7] ?_;refine Z39 ?_;refine A2 [2,3,4,5,6,7,26] ?_
 refine A4 (fun ht26=>?_) (fun ht26=>?_)
 ·have e:Gu s=(A8,(atM (Dn s).1 0).2.2.1,(atM (Dn s).1 0).2.2.2):=by unfold Gu X2;rw [if_neg e0,if_pos ht26]
  refine H4 [0,0,1,7] [2] [.q 2 [] [],.s [] (some 0) [] []] (fun _=>Hp) (fun _=>[.cells 26 [A6 0,Ah [],A6 0,A6 0,Ah [],.nil],.cells 69 [A6 0,A6 0],.cells 69 [A6 (atM (Dn s).1 0).2.2.1,A6 (atM (Dn s).1 0).2.2.2],.cells 26 (Bg (atM (Dn s).1 0).1)]) Aw (by kernel_rfl) rfl rfl (fun _=>rfl) ?_
  apply Y.q
  ·intro B hT hF
   exact wx
  case hTF=>decide
  refine Z79 ?_;refine La 0 5 6 ?_;refine gy ?_;exact Z81
 have e1:¬((atM (Dn s).1 0).2.2.1 != 0)=true:=by rw [ht26];simp
 obtain ⟨k,hk0,hk⟩:=rr hle (by omega) hpos (show (atM (Dn s).1 0).2.2.1=0 by simpa using ht26)
 have hkt:(atM (Dn s).1 0).2.1.toNat=k:=by rw [hk0];simp
 rw [hk0]
 refine Z9 ?_;refine Z32 ?_
 refine A7 (h:=Ax (k) (Iu (At (Dn s).1 k)) (fun _=>Pe hk)) (hr:=?_)
 refine Z24 ?_;refine A2 [2,3,4,6,7,34] ?_
 refine A4 (fun ht34=>?_) (fun ht34=>?_)
 ·have e:Gu s=(A8,8,((At (Dn s).1 k).at_:Int)):=by unfold Gu X2;rw [if_neg e0,if_neg e1,hkt,if_pos ht34]
  refine H4 [0,0,0,6,14,30,62,1,255] [7] [.q 7 [] [],.s [] (some 0) [] []] (fun _=>Hp) (fun _=>[.cells 26 [A6 0,Ah [],A6 0,A6 0,Ah [],.nil],.cells 69 [A6 0,A6 0],.cells 69 [A6 (atM (Dn s).1 0).2.2.1,A6 (atM (Dn s).1 0).2.2.2],.cells 26 (Bg (atM (Dn s).1 0).1)]) Aw (by kernel_rfl) rfl rfl (fun _=>rfl) ?_
  apply Y.q
  ·intro B hT hF
   refine Z98 ?_
   refine B4 (h:=Ax (k) (Iu (At (Dn s).1 k)) (fun _=>Pe hk)) (hr:=?_)
   refine Z13 ?_;exact Z89
  case hTF=>decide
  refine ut ?_;refine H5 (tn:=[7])  ?_;refine La 0 5 6 ?_;refine gy ?_;exact Z81
 have e:Gu s=((atM (Dn s).1 0).1,0,0):=by unfold Gu X2;rw [if_neg e0,if_neg e1,hkt,if_neg (by rw [ht34];simp)]
 refine Z75 ?_;refine xt ?_;refine gy ?_;exact A5 (Ab (Ai jA jS) (Ai jA jS)) ⟨by rw [e,Ad]<;>rfl,rfl⟩ (hlow:=by have:=low_agg (n:=Hp.length) (atM (Dn s).1 0).1;simp at this ⊢;exact this)

/-! The chapter's example. -/
theorem AD2 (s:Str) (hs:s.length≤1048576) (Hp:List AObj):AFun Tryz.prog 33 [Ah s] Hp (.tup [Aa (Gu s).1,.agg [A6 (Gu s).2.1,A6 (Gu s).2.2]]):=by
 by_cases h:(Dn s).2.1=0
 ·exact c33 s hs (fun n Dv hn hd=>jx (ef h) (by have:=eu h;omega) n Dv hn hd) Hp
 refine c33 s hs (fun n Dv hn hd=>?_) Hp
 intro o Hp S t ho hi hS ht hop
 have:(Dn s).1=[]:=by
  unfold Dn at h ⊢
  split
  ·rfl
  rename_i h4
  rw [if_neg h4] at h
  cases hf:(C0 s).find? (fun it=>it.2 != 0) with
  | some it=>rfl
  | none=>rw [hf] at h;exact absurd rfl h
 rw [this] at hi
 cases hi
def iS:Str:=[115,116,114,40,49,48,32,45,32,97,41]
def iX:Expr:=D6 Kf [G4 (Cs ⟨1,10,[]⟩) [45] (B6 [97])]
def iY:Expr:=G4 (Cs ⟨1,10,[]⟩) [45] (D6 X8 [B6 [98]])
theorem t7:Gu iS=(iX,0,0):=by kernel_rfl
theorem AD3:ofI iX [97] [98]=some iY:=by kernel_rfl
theorem wo:Qk iY=([49,48,32,45,32,110,117,109,40,98,41],0):=by kernel_rfl
theorem zw:okE 30 iX:=(Jt (by kernel_rfl)).1
theorem zx:okE 30 iY:=(Jt (by kernel_rfl)).1
theorem i_p (Hp:List AObj):AFun Tryz.prog 33 [Ah iS] Hp (.tup [Aa iX,.agg [A6 0,A6 0]]):=by
 have:=AD2 iS (by decide) Hp
 rwa [t7] at this
theorem i_o (Hp:List AObj):AFun Tryz.prog 14 [Aa iX,Ah [97],Ah [98]] Hp (.tup [Aa iY,B8 true]):=by
 have:=c14 30 iX zw (by decide) (by kernel_rfl) [97] [98] (by decide) (by decide) Hp
 rwa [AD3] at this
theorem i_s (Hp:List AObj):AFun Tryz.prog 34 [Aa iY] Hp (.tup [Ah [49,48,32,45,32,110,117,109,40,98,41],A6 0]):=by
 have:=c34 30 iY zx (by decide) (by kernel_rfl) Hp
 rwa [wo] at this
/-- What peel makes is in range. -/
theorem pj {o:Int} {t:Str} {k:List Expr} (h:∀e∈k,B9 Cg e=true):B9 Cg (.mk o t noV k)=true:=by
 rw [Cj,Ak]
 exact ⟨rfl,(Ba _ _).2 h⟩
theorem Zu {v:Val} (h0 : -9223372036854775808≤v.n) (h1:v.n≤9223372036854775807):B9 Cg (Cs v)=true:=by
 rw [Cj,Ak]
 refine ⟨?_,rfl⟩
 unfold Cg
 simp only [Ak,decide_eq_true_eq]
 exact ⟨h0,h1⟩
theorem pk {x y:Expr} {p:Expr×Expr} (hn:B9 C1 x=true) (hx:B9 Cg x=true) (hy:B9 Cg y=true) (hp:Ei x y=some p):B9 C1 p.1=true∧B9 Cg p.1=true∧B9 Cg p.2=true:=by
 have hn0:=hn
 have hx0:=hx
 rw [Cj,Ak] at hn0 hx0
 unfold Ei at hp
 cases ha:Hy x with
 | none=>rw [ha] at hp;cases hp
 | some s =>
  rw [ha] at hp
  simp only at hp
  cases hu:Oe x s y with
  | none=>rw [hu] at hp;cases hp
  | some z =>
   rw [hu] at hp
   simp only at hp
   split at hp
   ·injection hp with hp
    subst hp
    have hk:=Xb ha
    refine ⟨(Ba _ _).1 hn0.2 _ hk,(Ba _ _).1 hx0.2 _ hk,?_⟩
    show B9 Cg z=true
    have two:∀{t:Str} {o:Int} {a b:Expr},B9 Cg a=true→B9 Cg b=true→B9 Cg (.mk o t noV [a,b])=true:=@fun t o a b h1 h2=>pj (fun e he=>by
     have he:e=a∨e=b:=by simpa using he
     rcases he with rfl|rfl
     ·exact h1
     exact h2)
    have one:∀{t:Str} {o:Int},B9 Cg (.mk o t noV [y])=true:=@fun t o=>pj (fun e he=>by rw [Bh.1 he];exact hy)
    have hc:∀{k:Int} {w:Val},Ln s.c k=some w→Fine w:=@fun k w h=>by
     rcases J7 ha with e|⟨e,_⟩|⟨e,_⟩
     ·have hz:s.c=A8:=by
       unfold Hy at ha
       rw [e] at ha
       simp only at ha
       split at ha
       ·injection ha with ha;rw [←ha]
       cases ha
      rw [hz] at h
      unfold Ln at h
      have hr:Au A8=false:=by kernel_rfl
      rw [hr] at h
      simp at h
     ·have hin:s.c∈x.kids:=by rw [e];simp
      exact yi
     have hin:s.c∈x.kids:=by rw [e];simp
     exact yi
    unfold Oe at hu
    split at hu
    ·injection hu with hu;rw [←hu];exact one
    split at hu
    ·injection hu with hu;rw [←hu];exact one
    split at hu
    ·unfold o8 at hu
     split at hu
     ·cases hu
     rename_i w hw
     have fw:=hc hw
     have rv:=Zu fw.lo fw.hi
     injection hu with hu
     rw [←hu]
     repeat' split
     ·exact two hy rv
     ·exact two rv hy
     exact two hy rv
    split at hu
    ·unfold Zk at hu
     split at hu
     ·cases hu
     rename_i w hw
     have fw:=(hc hw).len
     injection hu with hu
     rw [←hu]
     exact two hy (two one (Zu (by show _≤((w.s.length:Nat):Int);omega) (by show ((w.s.length:Nat):Int)≤_;omega)))
    cases hu
   cases hp
theorem Zv:∀(n:Nat) (x y:Expr),B9 C1 x=true→B9 Cg x=true→B9 Cg y=true→B9 Cg (E8 n x y).2=true
 | 0,_,_,_,_,h=>h
 | n+1,x,y,hn,hx,h=>by
  rw [E8]
  split
  ·exact h
  split
  ·exact h
  rename_i p hp
  obtain ⟨a,b,c⟩:=pk hn hx h hp
  exact Zv n p.1 p.2 a b c
theorem pl {x:Expr} {a b:Str} {y:Expr} (hg:B9 Cg x=true) (h:ofI x a b=some y):Au x=true∧Au y=true∧B9 Cg y=true:=by
 unfold ofI at h
 split at h
 ·cases h
 rename_i h0
 simp only [Vn,F7,Ja] at h0
 split at h
 ·injection h with h
  rw [←h]
  exact ⟨h0.1.1,Nh _ _ _ (by rw [N3];exact h0.2),Zv _ _ _ (It (by rw [←E6];exact h0.1.1)) hg rfl⟩
 cases h
theorem c8 (Hp:List AObj):AFun Tryz.prog 8 [] Hp (B8 true):=by
 refine Aq [.tmp 0] [] Tryz.func8 Tryz.ntmps8 (fun d=>?_)
 refine Z3 ?_;refine A2 [] ?_;refine Ey ?_;refine Ac Tryz.call33 (i_p _) ?_;refine Z53 ?_;refine Z21 ?_;refine Jj ?_;refine A2 [1,2] ?_;refine Z3 ?_;refine Ac Tryz.call14 (i_o _) ?_;refine Z82 ?_;refine A2 [2,3,4] ?_;refine Z3 ?_;refine Ac Tryz.call34 (i_s _) ?_;refine Qq ?_;refine A2 [2,4,5,6] ?_;refine Z17 ?_;refine Z35 ?_;refine Z12 ?_;refine Z0 ?_;refine Z12 ?_;refine Z0 ?_;refine A2 [0] ?_;refine Hi ?_;exact A5 (Ap A3)

theorem c3 (x:Expr) (gx:B9 Cg x=true) (c:List Col) (l:List Val) (hlr:∀v∈l, -9223372036854775808≤v.n∧v.n≤9223372036854775807) (at_:Int) (Hp:List AObj):AFun Tryz.prog 3 [Aa x,Gq c,Jk l,A6 at_] Hp (B8 true):=by
 refine Aq [.tmp 8] [0,1,2,3] Tryz.func3 Tryz.ntmps3 (fun d=>?_)
 refine Z1 ?_;refine A2 [1,2,3,4] ?_;refine Z96 ?_;refine Ac Tryz.call8 (c8 _) ?_;refine A7 ?_;refine A2 [1,2,3,4,19] ?_
 refine A4 (fun ht19=>?_) (fun ht19=>?_)
 ·cases ht19
 refine Wg ?_;refine Ac Tryz.call9 (c9 x _) ?_;refine A7 ?_;refine C4 ?_;refine Co Tryz.call10 (fun hB=>c6u c _) ?_;refine Y0 ?_;refine Co Tryz.call11 (fun hB=>c11 l _) ?_;refine Z0 ?_;refine Z56 ?_;refine Z12 ?_
 refine Co (args:=[Gq c,Jk l]) (r:=B8 (Kb c l)) Tryz.call12 (fun hB=>?_) ?_
 ·simp at hB
  exact c12 c (eg hB.1.1.2) l (Zi hB.1.2) _
 refine Z63 ?_;refine A2 [1,2,3,4,40] ?_
 refine A4 (fun ht40=>?_) (fun ht40=>?_)
 ·refine Z3 ?_;exact uq
 rw [Bp] at ht40
 have h40:(((n7 x=false∧Ld c=false)∧Mh l=false)∧c.length≠0)∧Kb c l=true:=by simpa using ht40
 obtain ⟨⟨⟨⟨hwx,hmc⟩,hlg⟩,hcn⟩,hrow⟩:=h40
 have hs:=r8 hwx
 have hc:=eg hmc
 have hl1:=Zi hlg
 have hcl:c.length≤50:=by unfold Ld at hmc;simp at hmc;omega
 refine Z9 ?_;refine Ey ?_
 obtain ⟨k,hkl,hke⟩:=yy at_ c.length (by omega) (by omega)
 refine Qq ?_
 refine A7 (h:=Q.rem (h0:=fun _=>by rw [Bp,wrap_u64 (by omega) (by omega)];omega)) (hr:=?_)
 refine A7 ?_
 rw [Bp,hke]
 refine A7 ?_;refine A2 [1,2,4,9] ?_;refine Z1 ?_;refine Ac Tryz.call13 (c13 61 x hs.ok (by decide) c hc _) ?_;refine Qq ?_;refine A2 [1,2,4,9,10,11] ?_;refine H4 [0,0,0,6,14,30,63,127,255,255,0,1535,4095] [10,11] [.q 10 [] [],.s [12] (some 0) [] [1],.s [] (some 1) [0] []] (fun _=>Hp) (fun B=>if B 0=true then [(if B 1=true then .cells 26 (Bg ((ofI x c[k].name [98,95,49]).getD A8)) else .cells 26 [A6 0,Ah [],A6 0,A6 0,Ah [],.nil]:AObj)] else []) Aw (by kernel_rfl) rfl rfl (fun _=>rfl) ?_
 apply Y.q
 ·intro B hT hF
  refine Z33 ?_
  refine B4 (h:=Ax (k) (U6 c[k]) (fun _=>Cu hkl)) (hr:=?_)
  refine Z13 ?_;refine Cy Tryz.call14 (c14 61 x hs.ok (by decide) gx c[k].name [98,95,49] (hc.2 _ (Db hkl)) (by decide) _) ?_;exact q9
 case hTF=>decide
 refine Y.alloc (zs:=[A6 0,Ah [],A6 0,A6 0,Ah [],.nil]) (n:=0) (u:=Hp.length) Tryz.zeroValue26 (fun B hT hF hB=>⟨rfl,by simp [hB],by simp [upd,hB,hF 1 (by simp)],rfl⟩) ?_;refine Wb (u:=Hp.length) (n:=0) (t':=26) (cs:=[A6 0,Ah [],A6 0,A6 0,Ah [],.nil]) (cs':=Bg ((ofI x c[k].name [98,95,49]).getD A8)) Tryz.sizeOf26 (fun B hT hF hB=>⟨rfl,by simp [hT 0 (by simp),hB],by simp [upd,hT 0 (by simp),hB],rfl⟩) ?_;refine H5 (tn:=[10,11]) (O:=[.cells 26 (Bg ((ofI x c[k].name [98,95,49]).getD A8))]) ?_;refine A7 ?_;refine A2 [1,2,4,9,10,11,12,13] ?_;refine Z39 ?_;refine b7 ?_;refine A2 [1,2,4,9,10,12,69] ?_
 refine A4 (fun ht69=>?_) (fun ht69=>?_)
 ·refine Z3 ?_;exact uq
 have h69:(O4 x c).2=0∧(ofI x c[k].name [98,95,49]).isSome=true:=by simpa using ht69
 obtain ⟨y,hO⟩:=dk.1 h69.2
 obtain ⟨hrx,hry,hyg0⟩:=pl gx hO
 have hyo:okE 30 ((ofI x c[k].name [98,95,49]).getD A8):=by rw [hO];exact (Jt (by rw [←E6];exact hry)).1
 have hyg:B9 Cg ((ofI x c[k].name [98,95,49]).getD A8)=true:=by rw [hO];exact hyg0
 refine U4 ?_;refine Ac Tryz.call15 (c15 61 x hs.ok (by decide) gx c hc l hl1 hlr _) ?_;refine Z82 ?_;refine A2 [2,9,10,12,14,15] ?_;refine Z32 ?_;refine A2 [2,9,10,12,14,78] ?_
 refine A4 (fun ht78=>?_) (fun ht78=>?_)
 ·refine Z3 ?_;exact uq
 have h78:(Dh x c l).2=0:=by simpa using ht78
 have hlc:l.length=c.length:=by unfold Kb at hrow;simp at hrow;exact hrow.1.2
 have hkl2:k<l.length:=by omega
 have hlaw:Dh ((ofI x c[k].name [98,95,49]).getD A8) [⟨[98,95,49],(O4 x c).1⟩] [(Dh x c l).1]=(l[k],0):=by
  have:=tz hrx gx hrow hlr (Al hkl) (Prod.ext rfl h69.1) hO (Prod.ext rfl h78)
  rw [hO]
  rw [Ch,Al hkl2] at this
  exact this
 have hvr:=(pc (Ob hrow hlr))
 have hvr : -9223372036854775808≤(Dh x c l).1.n∧(Dh x c l).1.n≤9223372036854775807:=by
  have:=pa (c:=c) (Ob hrow hlr) gx
  exact ⟨this.lo,this.hi⟩
 refine S4 ?_;refine ik ?_;refine bc ?_;refine A7 ?_;refine bc ?_
 refine Ac Tryz.call15 (c15 30 ((ofI x c[k].name [98,95,49]).getD A8) hyo (by decide) hyg [⟨[98,95,49],(O4 x c).1⟩] ⟨by simp,fun z hz=>by rw [Bh.1 hz];simp⟩ [(Dh x c l).1] (by simp) (fun v hv=>by rw [Bh.1 hv];exact hvr) _) ?_
 refine Z82 ?_;refine A2 [2,9,16,17] ?_;refine Mu [0,1,3,7,7,7,55,119,255,511,1023] 8 Aw (by kernel_rfl) ?_
 rw [hlaw]
 refine Z33 ?_;refine Z72 ?_;refine H.go ?_
 refine H.go (h:=Ax (k) (Bq l[k]) (fun hB=>Cu hkl2)) (hr:=?_)
 refine H.go ?_;refine Dw ?_
 refine C4 (h:=L5 Wk (I6 l[k].kind l[k].n l[k].kind l[k].n l[k].s l[k].s)) (hr:=?_)
 refine Z0 ?_;refine A2 [8] ?_;refine Hi ?_;exact uw

end Go.SX.Nb
namespace Go.Proofs.YtofbdcbjpdpllaaGreatDoor
open Go Go.SX Go.SX.Nb Go.ChangeShapes Go.RowKit
set_option maxRecDepth 100000
theorem kr:Tryz.pinned.checked.prog.funcNamed Rows.invertComesRow.func=some 3:=by kernel_rfl
theorem t8:laidOutB Tryz.pinned.checked.prog=true:=by kernel_rfl
theorem ta:(Rows.invertComesRow.inPlace==Tryz.pinned.checked.prog.inPlace 3)=true:=by kernel_rfl
theorem tc:(Rows.invertComesRow.unfollowed==Tryz.pinned.checked.prog.unfollowed 3)=true:=by kernel_rfl
theorem td:(Rows.invertComesRow.recurses==Tryz.pinned.checked.prog.recurses 3)=true:=by kernel_rfl
theorem tg:(Rows.invertComesRow.named==Tryz.pinned.checked.prog.varsNamed 3)=true:=by kernel_rfl
theorem th:Tryz.pinned.checked.prog.mayEnter=true:=by kernel_rfl
theorem db:joinedFacts Tryz.pinned.checked.prog 3 Tryz.f3 (OpenSpec.ofChange Rows.invertComesSpec).bare Rows.invertComesRow=true:=by
 unfold joinedFacts
 rw [t8,ta,tc,td,tg,th]
 kernel_rfl
theorem kt:Tryz.f3.isInstance Tryz.pinned.checked.prog Rows.invertComesRow.origin Rows.invertComesRow.targs:=of_decide_eq_true (by kernel_rfl)
theorem ku:Tryz.f3.isWrapper Tryz.pinned.checked.prog Rows.invertComesRow.wrapper Rows.invertComesRow.mainSum:=by
 unfold Func.isWrapper
 first|(rw [if_pos (by decide +kernel)];kernel_rfl)|(rw [if_neg (by decide +kernel)];exact ⟨rfl,rfl⟩)
end Go.Proofs.YtofbdcbjpdpllaaGreatDoor
