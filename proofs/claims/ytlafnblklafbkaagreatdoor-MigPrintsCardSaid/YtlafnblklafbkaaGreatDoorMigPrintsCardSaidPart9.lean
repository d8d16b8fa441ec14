/- Texts on the way to this: MigPrints answers true for whatever it is handed: any migration that is right has the text that the chapter says, and is parsed from it as it was, unless brackets nest too deep; any other one has none (up to 12 moves, trees of up to 500 nodes). (part 9) -/
import Derived.Shelf.Strings.Builder1
import Derived.Lib.ItoaLen
import Derived.Test.YtlafnblklafbkaaGreatDoorMigPrintsCardSaidPart8
set_option linter.all false
namespace Go.SX.Nb
open Go Go.SX Go.Proofs
variable [ErrAt]
set_option maxRecDepth 4000
theorem La {α β:Type} {f:α→β} {l:List α} {x:Nat} (h:x<l.length):(l.take (x+1)).map f=(l.take x).map f++[f l[x]]:=by
 rw [List.take_succ_eq_append_getElem h,List.map_append];rfl
def N9 {α:Type} (p:α→Bool) (l:List α):Int:=if l.any p then (l.findIdx p:Int) else -1
theorem qw {α:Type} {p:α→Bool} {l:List α} {i:Nat} (h:i<l.length) (hn:p l[i]=true) (hp:∀(j:Nat) (y:α),j<i→l[j]? = some y→p y=false):(i:Int)=N9 p l:=by
 unfold N9
 rw [if_pos (List.any_eq_true.2 ⟨_,List.getElem_mem h,hn⟩)]
 congr 1
 refine (List.findIdx_eq h |>.2 ⟨hn,fun j hj=>?_⟩).symm
 exact hp j (l[j]'(by omega)) hj (List.getElem?_eq_getElem (by omega))
theorem db {α:Type} {p:α→Bool} {l:List α} (h:l.any p=false):(-1:Int)=N9 p l:=by
 unfold N9
 rw [if_neg (by rw [h];simp)]
theorem lb {α:Type} (p:α→Bool) (l:List α):decide (0≤N9 p l)=l.any p:=by
 unfold N9
 cases l.any p<;>simp
def Ko (s:Str):Bool := !(Bf s)
def Iq (e:Expr):Bool := !(B4 e)
theorem Yv {m:Mov} (h:(((m.ahead.length:Int) != (m.give.length:Int)) || ((m.back.length:Int) != (m.take.length:Int)))=true):Bs m=false:=if_pos h
theorem Yw {m:Mov} (h:(((m.ahead.length:Int) != (m.give.length:Int)) || ((m.back.length:Int) != (m.take.length:Int)))=false):Bs m=if m.kind==1 then ((m.take.length:Int)==0)&&((m.give.length:Int)==1)
 else if m.kind==2 then ((m.take.length:Int)==1)&&((m.give.length:Int)==0)
 else if (m.kind==3) || (m.kind==6) then ((m.take.length:Int)==1)&&((m.give.length:Int)==1)
 else if m.kind==4 then ((m.take.length:Int)==1)&&decide ((1:Int)<(m.give.length:Int))
 else if m.kind==5 then decide ((1:Int)<(m.take.length:Int))&&((m.give.length:Int)==1)
 else false:=if_neg (by rw [h];simp)
theorem c66 (m:Mov) (Hp:List AObj):AFun Tryz.prog 66 [Dp m] Hp (Ap (Bs m)):=by
 refine ACall.body [.tmp 2] [0] Tryz.func66 Tryz.ntmps66 (fun d=>?_)
 refine Z54 ?_;refine W.drawQ [0,1,3,0,8,24,7,127] 7 Ab (by kernel_rfl) ?_;refine Pi ?_;refine Z37 ?_;refine D.tail ?_;refine R.go ?_;refine Pj ?_;refine Z76 ?_
 simp only [List.length_map]
 refine Z79 ?_;refine Vs ?_;refine Z68 ?_;refine R.fin [1,3,4,22] ?_
 refine W.cond (fun ht22=>?_) (fun ht22=>?_)
 ·simp only [List.length_map] at ht22
  have hm:=Yv ht22
  exact Z92
 simp only [List.length_map] at ht22
 have hn:=Yw ht22
 refine Z5 ?_;refine Z31 ?_;refine R.fin [3,4,24] ?_;refine Z69 ?_;refine R.fin [3,4,24,25] ?_
 refine W.cond (fun ht25=>?_) (fun ht25=>?_)
 ·refine Xj ?_;refine Z7 ?_;exact K.fin (V.one V.tmp) ⟨by rw [hn];first|(simp only [ht22,ht25,hk3,hk6,Bool.true_or,Bool.false_or,Bool.or_true,Bool.or_false,if_true,if_false,Bool.false_eq_true,↓reduceIte]<;>rfl)|(simp only [ht22,ht25,hk3,Bool.true_or,Bool.false_or,Bool.or_true,if_true,if_false,Bool.false_eq_true,↓reduceIte]<;>rfl)|(simp only [ht22,ht25,if_true,if_false,Bool.false_eq_true,↓reduceIte]<;>rfl),rfl⟩
 refine Z3 ?_;refine R.fin [3,4,24,33] ?_
 refine W.cond (fun ht33=>?_) (fun ht33=>?_)
 ·refine Xj ?_;refine Z7 ?_;exact K.fin (V.one V.tmp) ⟨by rw [hn];first|(simp only [ht22,ht25,ht33,hk3,hk6,Bool.true_or,Bool.false_or,Bool.or_true,Bool.or_false,if_true,if_false,Bool.false_eq_true,↓reduceIte]<;>rfl)|(simp only [ht22,ht25,ht33,hk3,Bool.true_or,Bool.false_or,Bool.or_true,if_true,if_false,Bool.false_eq_true,↓reduceIte]<;>rfl)|(simp only [ht22,ht25,ht33,if_true,if_false,Bool.false_eq_true,↓reduceIte]<;>rfl),rfl⟩
 refine Z31 ?_;refine R.fin [3,4,24,41] ?_
 refine W.cond (fun ht41=>?_) (fun ht41=>?_)
 ·have hk3:=ht41
  refine Z5 ?_
  refine W.cond (fun ht41=>?_) (fun ht41=>?_)
  ·refine Xj ?_;exact Z41
  rw [hk3] at ht41;cases ht41
 have hk3:=ht41
 refine Z30 ?_;refine R.fin [3,4,24,41] ?_;refine K.thN ?_
 refine W.cond (fun ht41=>?_) (fun ht41=>?_)
 ·have hk6:=ht41
  refine Xj ?_;exact Z41
 have hk6:=ht41
 refine Z3 ?_;refine R.fin [3,4,24,50] ?_
 refine W.cond (fun ht50=>?_) (fun ht50=>?_)
 ·refine Xj ?_;refine Z7 ?_;exact K.fin (V.one V.tmp) ⟨by rw [hn];first|(simp only [ht22,ht25,ht33,ht41,ht41,ht50,hk3,hk6,Bool.true_or,Bool.false_or,Bool.or_true,Bool.or_false,if_true,if_false,Bool.false_eq_true,↓reduceIte]<;>rfl)|(simp only [ht22,ht25,ht33,ht41,ht41,ht50,hk3,Bool.true_or,Bool.false_or,Bool.or_true,if_true,if_false,Bool.false_eq_true,↓reduceIte]<;>rfl)|(simp only [ht22,ht25,ht33,ht41,ht41,ht50,if_true,if_false,Bool.false_eq_true,↓reduceIte]<;>rfl),rfl⟩
 refine Z3 ?_;refine R.fin [3,4,58] ?_
 refine W.cond (fun ht58=>?_) (fun ht58=>?_)
 ·refine Xj ?_;refine Z7 ?_;exact AB7
 refine Xh ?_;exact AB7

theorem c72 (s:Str) (hs:s.length≤1048576) (Hp:List AObj):AFun Tryz.prog 72 [Aa s] Hp (Ap (Ko s)):=by
 refine ACall.body [.tmp 2] [0] Tryz.func72 Tryz.ntmps72 (fun d=>?_)
 refine Z46 ?_;refine Z0 ?_;refine R.call Tryz.call67 (c67 s hs _) ?_;exact mx

theorem c69 (e:Expr) (hok:okE 61 e) (Hp:List AObj):AFun Tryz.prog 69 [A5 e] Hp (Ap (Iq e)):=by
 refine ACall.body [.tmp 2] [0] Tryz.func69 Tryz.ntmps69 (fun d=>?_)
 refine Z54 ?_;refine Z0 ?_;refine R.call Tryz.call70 (c70 61 e hok (by decide) _) ?_;exact mx

theorem ADz (l:List Str) (hl:l.length≤1048576) (hn:∀s∈l,s.length≤1048576) (Hp:List AObj):AFun Tryz.prog 108 [Du l,.fn (.func 72) [] []] Hp (A3 (N9 Ko l)):=by
 refine ACall.body [.tmp 4] [0,1] Tryz.func108 Tryz.ntmps108 (fun d=>?_)
 refine Z59 ?_;refine Z22 ?_;refine R.fin [0,1,7,8] ?_
 refine AW.loopC (α:=Nat) (fun x=>⟨19,A6 0 (Du l) (A6 1 (.fn (.func 72) [] []) (A6 7 (A3 l.length) (A6 8 (A3 (x:Nat)) (fun _=>.any)))),Hp,[],[],none⟩) (fun x=>x≤l.length∧∀(j:Nat) y,j<x→l[j]? = some y→Ko y=false) (fun x=>l.length-x) (0) ⟨Nat.zero_le _,fun j y h=>by omega⟩ (StLe.of_eq (by simp)) rfl (fun x hx=>?_)
 refine Z0 ?_;refine R.fin [0,1,7,8,9] ?_
 refine W.condX (fun ht9=>?_) (fun ht9=>?_)
 ·have hlt:x<l.length:=by simpa using ht9
  refine Z16 ?_;refine Z3 ?_;refine R.fin [0,1,5,7,8] ?_;refine Z19 ?_
  refine R.go (h:=Q.indexAddr (x) (Aa l[x]) (fun _=>Am hlt)) (hr:=?_)
  refine R.go ?_;refine R.callV Tryz.call72 (c72 l[x] (hn _ (List.getElem_mem hlt)) _) ?_;refine R.fin [0,1,5,7,8,16] ?_
  refine W.cond (fun ht16=>?_) (fun ht16=>?_)
  ·refine Z3 ?_;refine Z17 ?_;exact xf
  refine T5 ?_;exact Z80
 have hxe:l.length≤x:=by simpa using ht9
 refine Z23 ?_;exact Z93

theorem c71 (l:List Str) (hl:l.length≤1048576) (hn:∀s∈l,s.length≤1048576) (Hp:List AObj):AFun Tryz.prog 71 [Du l,.fn (.func 72) [] []] Hp (Ap (l.any Ko)):=by
 refine ACall.body [.tmp 4] [0,1] Tryz.func71 Tryz.ntmps71 (fun d=>?_)
 refine Z59 ?_;refine Z3 ?_;refine R.call Tryz.call108 (ADz l hl hn _) ?_;refine Z1 ?_;exact xh

theorem AC2 (l:List Expr) (hl:l.length≤1048576) (hn:∀e∈l,okE 61 e) (Hp:List AObj):AFun Tryz.prog 109 [Ip l,.fn (.func 69) [] []] Hp (A3 (N9 Iq l)):=by
 refine ACall.body [.tmp 4] [0,1] Tryz.func109 Tryz.ntmps109 (fun d=>?_)
 refine Z59 ?_;refine Z22 ?_;refine R.fin [0,1,7,8] ?_
 refine AW.loopC (α:=Nat) (fun x=>⟨19,A6 0 (Ip l) (A6 1 (.fn (.func 69) [] []) (A6 7 (A3 l.length) (A6 8 (A3 (x:Nat)) (fun _=>.any)))),Hp,[],[],none⟩) (fun x=>x≤l.length∧∀(j:Nat) y,j<x→l[j]? = some y→Iq y=false) (fun x=>l.length-x) (0) ⟨Nat.zero_le _,fun j y h=>by omega⟩ (StLe.of_eq (by simp)) rfl (fun x hx=>?_)
 refine Z0 ?_;refine R.fin [0,1,7,8,9] ?_
 refine W.condX (fun ht9=>?_) (fun ht9=>?_)
 ·have hlt:x<l.length:=by simpa using ht9
  refine Z16 ?_;refine Z3 ?_;refine R.fin [0,1,5,7,8] ?_;refine Z19 ?_
  refine R.go (h:=Q.indexAddr (x) (A5 l[x]) (fun _=>Am hlt)) (hr:=?_)
  refine R.go ?_;refine R.callV Tryz.call69 (c69 l[x] (hn _ (List.getElem_mem hlt)) _) ?_;refine R.fin [0,1,5,7,8,16] ?_
  refine W.cond (fun ht16=>?_) (fun ht16=>?_)
  ·refine Z3 ?_;refine Z17 ?_;exact xf
  refine T5 ?_;exact Z80
 have hxe:l.length≤x:=by simpa using ht9
 refine Z23 ?_;exact Z93

theorem x7 (l:List Expr) (hl:l.length≤1048576) (hn:∀e∈l,okE 61 e) (Hp:List AObj):AFun Tryz.prog 73 [Ip l,.fn (.func 69) [] []] Hp (Ap (l.any Iq)):=by
 refine ACall.body [.tmp 4] [0,1] Tryz.func73 Tryz.ntmps73 (fun d=>?_)
 refine Z59 ?_;refine Z3 ?_;refine R.call Tryz.call109 (AC2 l hl hn _) ?_;refine Z1 ?_;exact xh

theorem c75 (s:Str) (Hp:List AObj):AFun Tryz.prog 75 [Aa s] Hp (A5 (Aq s)):=by
 refine ACall.body [.cell 2 69] [0] Tryz.func75 Tryz.ntmps75 (fun d=>?_)
 refine Z52 ?_;refine Z0 ?_;refine AAa ?_;refine R.nilCell 0 5 6 ?_;refine Z2 ?_;exact K.fin (V.one (V.cellN jA jS)) ⟨by rw [Ac];rfl,rfl⟩

theorem Yx {m:Mov} {c:Col}:(((!(Bf c.name)) || (!((Ah c.kind==[])==(m.kind==3)))) || ((m.kind==3)&&(c.kind != 0))) = !Ef m c:=by
 unfold Ef
 cases Bf c.name<;>cases (Ah c.kind==([]:Str))<;>cases (m.kind==3)<;>cases (c.kind != 0)<;>rfl
theorem z6 {m:Mov} (h:(!(Bs m))=true):Cf m=false:=by
 have:Bs m=false:=by simpa using h
 unfold Cf;rw [this];rfl
theorem z7 {m:Mov} {c:Col} (hc:c∈m.give) (h:Ef m c=false):Cf m=false:=by
 have:m.give.all (Ef m)=false:=List.all_eq_false.2 ⟨c,hc,by rw [h];simp⟩
 unfold Cf;rw [this];simp
theorem z8 {m:Mov} (h:((m.take.any Ko || m.ahead.any Iq) || m.back.any Iq)=true):Cf m=false:=by
 unfold Cf
 rw [show Ko=fun s => !(Bf s) from rfl,show Iq=fun e => !(B4 e) from rfl,Fb,Fb,Fb] at h
 cases h1:m.take.all Bf<;>cases h2:m.ahead.all B4<;>cases h3:m.back.all B4<;>simp_all
theorem vy {m:Mov} (h1:Bs m=true) (h2:m.give.all (Ef m)=true) (h:((m.take.any Ko || m.ahead.any Iq) || m.back.any Iq)=false):Cf m=E8 m:=by
 unfold Cf
 rw [show Ko=fun s => !(Bf s) from rfl,show Iq=fun e => !(B4 e) from rfl,Fb,Fb,Fb] at h
 rw [h1,h2]
 cases h1:m.take.all Bf<;>cases h2:m.ahead.all B4<;>cases h3:m.back.all B4<;>simp_all
theorem Ju {α β:Type} {f:α→β} {l:List α} {d:α} (h:0<l.length):(l.map f)[0]? = some (f (l.getD 0 d)):=by
 rw [List.getElem?_map,List.getElem?_eq_getElem h,List.getD_eq_getElem?_getD,List.getElem?_eq_getElem h]
 rfl
theorem J3 {α:Type} {l:List α} {d:α} (h:0<l.length):l.getD 0 d∈l:=by
 rw [List.getD_eq_getElem?_getD,List.getElem?_eq_getElem h]
 exact List.getElem_mem h
theorem qx {m:Mov} (h:(m.kind==3)=true):E8 m=(eqE (m.ahead.getD 0 Ad) (Aq (m.take.getD 0 []))&&eqE (m.back.getD 0 Ad) (Aq (m.give.getD 0 ⟨[],0⟩).name)):=if_pos h
theorem qy {m:Mov} (h:(m.kind==3)=false) (h6:(m.kind==6)=true):E8 m=(m.take.getD 0 []==(m.give.getD 0 ⟨[],0⟩).name):=by unfold E8;rw [if_neg (by rw [h];simp),if_pos h6]
theorem qz {m:Mov} (h:(m.kind==3)=false) (h6:(m.kind==6)=false):E8 m=true:=by unfold E8;rw [if_neg (by rw [h];simp),if_neg (by rw [h6];simp)]
theorem c36 (m:Mov) (h:OkMov m) (Hp:List AObj):AFun Tryz.prog 36 [Dp m] Hp (Ap (Cf m)):=by
 refine ACall.body [.tmp 2] [0] Tryz.func36 Tryz.ntmps36 (fun d=>?_)
 refine Z54 ?_;refine Z8 ?_;refine R.call Tryz.call66 (c66 m _) ?_;refine R.go ?_;refine R.fin [1,8] ?_
 refine W.cond (fun ht8=>?_) (fun ht8=>?_)
 ·have hm:=z6 ht8
  exact n7
 have hct:Bs m=true:=by simpa using ht8
 refine Z5 ?_;refine Z55 ?_;refine R.fin [1,10,11,12] ?_
 refine AW.loopC (α:=Nat) (fun x=>⟨95,A6 1 (.ro (I0 m)) (A6 10 (Mi m.give) (A6 11 (A3 (m.give.length:Nat)) (A6 12 (A3 (x:Nat)) (fun _=>.any)))),Hp,[],[],none⟩) (fun x=>x≤m.give.length∧∀(j:Nat) (y:Col),j<x→m.give[j]? = some y→(!Ef m y)=false) (fun x=>m.give.length-x) (0) ⟨Nat.zero_le _,fun j y h=>by omega⟩ (StLe.of_eq (by simp)) rfl (fun x hx=>?_)
 refine Z0 ?_;refine R.fin [1,10,11,12,13] ?_
 refine W.condX (fun ht13=>?_) (fun ht13=>?_)
 ·have hlt:x<m.give.length:=by simpa using ht13
  have hgl:=h.gives2
  refine ng ?_
  refine R.go (h:=Q.indexAddr (x) (Bu m.give[x]) (fun _=>Am hlt)) (hr:=?_)
  refine Xi ?_;refine R.fin [1,4,10,11,12] ?_;refine W.drawQ [0,1,3,7,15,31,63,127,255,31,543,1567,4095,8191,16383,32767,65535,131071,262143,524287,1048575,2097151,4194303,8388607] 12 Ab (by kernel_rfl) ?_;refine Z9 ?_;refine D.call Tryz.call67 (c67 m.give[x].name (h.gives.2 _ (List.getElem_mem hlt)) _) ?_;refine Z9 ?_;refine Z77 ?_;refine H.call Tryz.call68 (fun hB=>c68 m.give[x].kind _) ?_;refine Z77 ?_;refine Z77 ?_;refine D.tail ?_;refine Z63 ?_;refine Z53 ?_;refine Qo ?_;refine R.fin [1,10,11,12,39] ?_
  refine W.cond (fun ht39=>?_) (fun ht39=>?_)
  ·rw [Yx] at ht39
   have hm:=z7 (List.getElem_mem hlt) (by simpa using ht39)
   refine Z12 ?_;exact Xf
  rw [Yx] at ht39
  refine T5 ?_;refine R.fin [1,10,11,12] ?_;refine K.lpN (x+1) ⟨hlt,Az hlt hx.2 ht39⟩ (by omega) ?_
  exact StCut.take (own:=[]) (fun _=>.refl _) (by repeat (first|exact C5|refine C4 (by first|(simp [or_imp,forall_and];done)|exact la|exact low_ro.2 N8) ?_)) (by simp) (by simp)
 have hxe:m.give.length≤x:=by simpa using ht13
 have hga:m.give.all (Ef m)=true:=by have:=F9 hxe hx.2;rw [Fb] at this;simpa using this
 refine Z23 ?_;refine Z0 ?_;refine R.fin [1,5] ?_;refine Z31 ?_;refine R.call Tryz.call71 (c71 m.take h.takes h.names _) ?_;refine R.go ?_;refine Z4 ?_;refine G.go ?_;refine G.call Tryz.call73 (fun hB=>x7 m.ahead h.ahead.len h.ahead.ok _) ?_;refine Z29 ?_;refine G.go ?_;refine G.call Tryz.call73 (fun hB=>x7 m.back h.back.len h.back.ok _) ?_;refine R.go ?_;refine R.fin [1,55] ?_
 refine W.cond (fun ht55=>?_) (fun ht55=>?_)
 ·have hm:=z8 ht55
  exact n7
 have hm0:=vy hct hga ht55
 refine Z5 ?_;refine Z31 ?_;refine R.fin [1,57] ?_;refine Z69 ?_;refine R.fin [1,57,58] ?_
 refine W.cond (fun ht58=>?_) (fun ht58=>?_)
 ·obtain ⟨hl1,hl2⟩:=Iz hct (by rw [ht58];simp)
  obtain ⟨hl3,hl4⟩:=Dq hct
  have g1:=Ju (f:=A5) (l:=m.ahead) (d:=Ad) (by omega)
  have g2:=Ju (f:=A5) (l:=m.back) (d:=Ad) (by omega)
  have g3:=Ju (f:=Aa) (l:=m.take) (d:=[]) (by omega)
  have g4:=Ju (f:=Bu) (l:=m.give) (d:=⟨[],0⟩) (by omega)
  have ok1:=h.ahead.ok _ (J3 (l:=m.ahead) (d:=Ad) (by omega))
  have ok2:=h.back.ok _ (J3 (l:=m.back) (d:=Ad) (by omega))
  have hm:=hm0.trans (qx ht58)
  refine W.drawQ [0,1,3,7,0,16,48,112,240,511,1023,2047,4095,8191,16383,2047,34815,100351,231423,493567,1017855,2097151,4194303,8388607] 21 Ab (by kernel_rfl) ?_;refine Z9 ?_
  refine D.go (h:=Q.indexAddr (0) (A5 (m.ahead.getD 0 Ad)) (fun _=>g1)) (hr:=?_)
  refine Z37 ?_
  refine D.go (h:=Q.indexAddr (0) (Aa (m.take.getD 0 [])) (fun _=>g3)) (hr:=?_)
  refine D.go ?_;refine D.call Tryz.call75 (c75 (m.take.getD 0 []) _) ?_;refine D.call Tryz.call74 (c74 61 (m.ahead.getD 0 Ad) ok1 (Aq (m.take.getD 0 [])) _) ?_;refine D.go ?_;refine Z77 ?_
  refine H.go (h:=Q.indexAddr (0) (A5 (m.back.getD 0 Ad)) (fun _=>g2)) (hr:=?_)
  refine jf ?_
  refine H.go (h:=Q.indexAddr (0) (Bu (m.give.getD 0 ⟨[],0⟩)) (fun _=>g4)) (hr:=?_)
  refine Z77 ?_;refine H.call Tryz.call75 (fun hB=>c75 (m.give.getD 0 ⟨[],0⟩).name _) ?_;refine D.tail ?_;refine G.call Tryz.call74 (fun hB=>c74 61 (m.back.getD 0 Ad) ok2 (Aq (m.give.getD 0 ⟨[],0⟩).name) _) ?_;refine Z36 ?_;exact AAg
 refine Z3 ?_;refine R.fin [1,83] ?_
 refine W.cond (fun ht83=>?_) (fun ht83=>?_)
 ·obtain ⟨hl1,hl2⟩:=Iz hct (by rw [ht83];simp)
  obtain ⟨hl3,hl4⟩:=Dq hct
  have g1:=Ju (f:=A5) (l:=m.ahead) (d:=Ad) (by omega)
  have g2:=Ju (f:=A5) (l:=m.back) (d:=Ad) (by omega)
  have g3:=Ju (f:=Aa) (l:=m.take) (d:=[]) (by omega)
  have g4:=Ju (f:=Bu) (l:=m.give) (d:=⟨[],0⟩) (by omega)
  have ok1:=h.ahead.ok _ (J3 (l:=m.ahead) (d:=Ad) (by omega))
  have ok2:=h.back.ok _ (J3 (l:=m.back) (d:=Ad) (by omega))
  have hm:=hm0.trans (qy ht58 ht83)
  refine AAk ?_
  refine D.go (h:=Q.indexAddr (0) (Aa (m.take.getD 0 [])) (fun _=>g3)) (hr:=?_)
  refine Z37 ?_
  refine D.go (h:=Q.indexAddr (0) (Bu (m.give.getD 0 ⟨[],0⟩)) (fun _=>g4)) (hr:=?_)
  refine Z9 ?_;refine D.tail ?_;refine Z36 ?_;exact AAg
 have hm:=hm0.trans (qz ht58 ht83)
 refine Xh ?_;exact jk

def lc (m:Mov):Bool := !(Cf m)
theorem vz (l:List Mov):(decide ((l.length:Int)≤8) && !(l.any lc))=I1 l:=by
 unfold I1
 rw [show lc=fun m => !(Cf m) from rfl,Fb]
 simp
theorem c35 (m:Mov) (h:OkMov m) (Hp:List AObj):AFun Tryz.prog 35 [Dp m] Hp (Ap (lc m)):=by
 refine ACall.body [.tmp 2] [0] Tryz.func35 Tryz.ntmps35 (fun d=>?_)
 refine Z54 ?_;refine Z0 ?_;refine R.call Tryz.call36 (c36 m h _) ?_;exact mx

theorem c65 (l:List Mov) (h:OkMovs l) (Hp:List AObj):AFun Tryz.prog 65 [Ca l,.fn (.func 35) [] []] Hp (A3 (N9 lc l)):=by
 refine ACall.body [.tmp 4] [0,1] Tryz.func65 Tryz.ntmps65 (fun d=>?_)
 refine Z59 ?_;refine Z22 ?_;refine R.fin [0,1,7,8] ?_
 refine AW.loopC (α:=Nat) (fun x=>⟨19,A6 0 (Ca l) (A6 1 (.fn (.func 35) [] []) (A6 7 (A3 l.length) (A6 8 (A3 (x:Nat)) (fun _=>.any)))),Hp,[],[],none⟩) (fun x=>x≤l.length∧∀(j:Nat) (y:Mov),j<x→l[j]? = some y→lc y=false) (fun x=>l.length-x) (0) ⟨Nat.zero_le _,fun j y h=>by omega⟩ (StLe.of_eq (by simp)) rfl (fun x hx=>?_)
 refine Z0 ?_;refine R.fin [0,1,7,8,9] ?_
 refine W.condX (fun ht9=>?_) (fun ht9=>?_)
 ·have hlt:x<l.length:=by simpa using ht9
  have hlen:=h.len
  refine Z16 ?_;refine Z3 ?_;refine R.fin [0,1,5,7,8] ?_;refine Z19 ?_
  refine R.go (h:=Q.indexAddr (x) (Dp l[x]) (fun _=>Am hlt)) (hr:=?_)
  refine R.go ?_;refine R.callV Tryz.call35 (c35 l[x] (h.each _ (List.getElem_mem hlt)) _) ?_;refine R.fin [0,1,5,7,8,16] ?_
  refine W.cond (fun ht16=>?_) (fun ht16=>?_)
  ·refine Z3 ?_;refine Z17 ?_;exact xf
  refine T5 ?_;exact Z80
 have hxe:l.length≤x:=by simpa using ht9
 refine Z23 ?_;exact Z93

theorem c34 (l:List Mov) (h:OkMovs l) (Hp:List AObj):AFun Tryz.prog 34 [Ca l,.fn (.func 35) [] []] Hp (Ap (l.any lc)):=by
 refine ACall.body [.tmp 4] [0,1] Tryz.func34 Tryz.ntmps34 (fun d=>?_)
 refine Z59 ?_;refine Z3 ?_;refine R.call Tryz.call65 (c65 l h _) ?_;refine Z1 ?_;exact xh

theorem c14 (l:List Mov) (h:OkMovs l) (Hp:List AObj):AFun Tryz.prog 14 [Ca l] Hp (Ap (I1 l)):=by
 refine ACall.body [.tmp 2] [0] Tryz.func14 Tryz.ntmps14 (fun d=>?_)
 refine Z46 ?_;refine Z34 ?_;refine G.go ?_;refine G.call Tryz.call34 (fun hB=>c34 l h _) ?_;refine G.go ?_;refine Z36 ?_;exact K.fin (V.one V.tmp) ⟨by rw [←vz,List.length_map],rfl⟩

/-! The columns on the way through moves. -/
theorem ACall.argLe {P:Program} {g:FuncId} {args args':List AV} {H:List AObj} {post:AV→List AObj→Prop} (h:ACall P g args' H post) (hl:args.length=args'.length) (hle:∀(i:Nat) (y y':AV),args[i]? = some y→args'[i]? = some y'→Le y y'):ACall P g args H post:=
 fun d G w vs h1 h2 h3 h4=>h d G w vs (h1.trans hl) (fun i y u hy hu=>by
  have hi:i<args.length:=by rw [hl];exact (List.getElem?_eq_some_iff.1 hy).1
  exact (h2 i _ u (List.getElem?_eq_getElem hi) hu).le (hle i _ y (List.getElem?_eq_getElem hi) hy)) h3 h4
theorem lf (s:Str):Le (.agg [A3 2,Aa s,A3 0,A3 0,Aa [],.nil]) (A5 (Aq s)):=by
 rw [Ac]
 refine .agg _ _ rfl (fun y hy=>?_) (fun i y y' hy hy'=>?_)
 ·simp only [Cs,List.mem_cons,List.mem_nil_iff,or_false] at hy
  rcases hy with rfl|rfl|rfl|rfl|rfl|rfl<;>rfl
 match i with
 | 0=>simp at hy;subst hy;simp [Cs,Aq] at hy';subst hy';exact .inl rfl
 | 1=>simp at hy;subst hy;simp [Cs,Aq] at hy';subst hy';exact .inl rfl
 | 2=>simp at hy;subst hy;simp [Cs,Aq] at hy';subst hy';exact .inl rfl
 | 3=>simp at hy;subst hy;simp [Cs,Aq] at hy';subst hy';exact .inl rfl
 | 4=>simp at hy;subst hy;simp [Cs,Aq] at hy';subst hy';exact .inl rfl
 | 5=>simp at hy;subst hy;simp [Cs,Aq] at hy';subst hy';exact .inr ⟨rfl,6,rfl⟩
 | i+6=>simp at hy
theorem AC3 (x:Expr) (hx:okE 61 x) (s:Str) (Hp:List AObj):AFun Tryz.prog 28 [A5 x,.agg [A3 2,Aa s,A3 0,A3 0,Aa [],.nil]] Hp (Ap (eqE x (Aq s))):=
 ACall.argLe (c28 61 x hx (Aq s) Hp) rfl fun i y y' hy hy'=>by
  match i with
  | 0=>simp at hy hy';subst hy;subst hy';exact .refl _
  | 1=>simp only [List.getElem?_cons_succ,List.getElem?_cons_zero,Option.some.injEq] at hy hy';subst hy;subst hy';exact lf s
  | i+2=>simp at hy
def I8 (m:Mov):Bool:=
 if m.kind==1 then ((m.take.length:Int)==0)&&((m.give.length:Int)==1)
 else if m.kind==2 then ((m.take.length:Int)==1)&&((m.give.length:Int)==0)
 else if (m.kind==3) || (m.kind==6) then ((m.take.length:Int)==1)&&((m.give.length:Int)==1)
 else if m.kind==4 then ((m.take.length:Int)==1)&&decide ((2:Int)≤(m.give.length:Int))
 else if m.kind==5 then decide ((2:Int)≤(m.take.length:Int))&&((m.give.length:Int)==1)
 else false
theorem r6 (n:Nat):decide ((1:Int)<(n:Int))=decide ((2:Int)≤(n:Int)):=by
 by_cases h:2≤n
 ·have h1:(1:Int)<n:=by omega
  have h2:(2:Int)≤n:=by omega
  simp [h1,h2]
 have h1:¬(1:Int)<n:=by omega
 have h2:¬(2:Int)≤n:=by omega
 simp [h1,h2]
theorem r7 {m:Mov} (h:(((m.ahead.length:Int) != (m.give.length:Int)) || ((m.back.length:Int) != (m.take.length:Int)))=false):Bs m=I8 m:=by
 rw [Yw h,r6,r6]
 rfl
theorem lg (k:Int):(Ah k==([]:Str))=(decide (k<1) || decide (3<k)):=by
 unfold Ah
 by_cases h:k<1∨3<k
 ·rw [if_pos (by first|exact h|omega)]
  rcases h with h|h<;>simp [h]
 rw [if_neg (by first|exact h|omega)]
 have hk:k=1∨k=2∨k=3:=by omega
 rcases hk with rfl|rfl|rfl<;>rfl
theorem Us {m:Mov} {c:Col}:(((!(Bf c.name)) || ((m.kind==3)&&(c.kind != 0))) || ((m.kind != 3)&&(decide (c.kind<1) || decide (3<c.kind)))) = !Ef m c:=by
 rw [←lg]
 unfold Ef
 rw [show (m.kind != 3) = !(m.kind==3) from rfl]
 cases h3:(m.kind==3) with
 | false=>cases Bf c.name<;>cases (Ah c.kind==([]:Str))<;>cases (c.kind != 0)<;>rfl
 | true =>
  by_cases h0:c.kind=0
  ·have e:(Ah c.kind==([]:Str))=true:=by rw [h0];rfl
   have e0:(c.kind != 0)=false:=by rw [h0];rfl
   rw [e,e0]
   cases Bf c.name<;>rfl
  have e0:(c.kind != 0)=true:=by simpa using h0
  rw [e0]
  cases Bf c.name<;>cases (Ah c.kind==([]:Str))<;>rfl
theorem Q0 (l:List Expr):l.all Ax=l.all B4:=by
 congr 1
 funext e
 exact (Cu e).symm
theorem w4 {m:Mov} (h:(((((m.ahead.length:Int) != (m.give.length:Int)) || ((m.back.length:Int) != (m.take.length:Int))) || (!(m.ahead.all Ax))) || (!(m.back.all Ax)))=true):Cf m=false:=by
 rw [Q0,Q0] at h
 unfold Cf
 cases h1:(((m.ahead.length:Int) != (m.give.length:Int)) || ((m.back.length:Int) != (m.take.length:Int))) with
 | true=>rw [Yv h1];rfl
 | false =>
  rw [h1] at h
  cases h2:m.ahead.all B4<;>cases h3:m.back.all B4<;>simp_all
theorem w5 {m:Mov} (h:(((((m.ahead.length:Int) != (m.give.length:Int)) || ((m.back.length:Int) != (m.take.length:Int))) || (!(m.ahead.all Ax))) || (!(m.back.all Ax)))=false):Bs m=I8 m∧Cf m=(((I8 m&&m.give.all (Ef m))&&m.take.all Bf)&&E8 m):=by
 rw [Q0,Q0] at h
 simp only [Bool.or_eq_false_iff,Bool.not_eq_false'] at h
 have hk:=r7 (m:=m) (by simp only [Bool.or_eq_false_iff];exact h.1.1)
 refine ⟨hk,?_⟩
 unfold Cf
 rw [hk,h.1.2,h.2]
 simp
theorem w6 {m:Mov} (h6:(m.kind==6)=false):E8 m=((m.kind != 3) || (eqE (m.ahead.getD 0 Ad) (Aq (m.take.getD 0 []))&&eqE (m.back.getD 0 Ad) (Aq (m.give.getD 0 ⟨[],0⟩).name))):=by
 rw [show (m.kind != 3) = !(m.kind==3) from rfl]
 cases h:(m.kind==3) with
 | true=>rw [qx h];rfl
 | false=>rw [qz h h6];rfl
theorem w7 {m:Mov} (h6:(m.kind==6)=true):E8 m=(m.take.getD 0 []==(m.give.getD 0 ⟨[],0⟩).name):=qy (by simp at h6 ⊢;omega) h6
theorem c38 (m:Mov) (h:OkMov m) (Hp:List AObj):AFun Tryz.prog 38 [Dp m] Hp (Ap (Cf m)):=by
 refine ACall.body [.tmp 2] [0] Tryz.func38 Tryz.ntmps38 (fun d=>?_)
 refine Z54 ?_;refine W.drawQ [0,1,3,0,8,24,7,127] 7 Ab (by kernel_rfl) ?_;refine Pi ?_;refine Z37 ?_;refine D.tail ?_;refine R.go ?_;refine Pj ?_;refine Z76 ?_
 simp only [List.length_map]
 refine Z79 ?_;refine Vs ?_;refine Z63 ?_;refine G.call Tryz.call77 (fun hB=>c77 m.ahead h.ahead _) ?_;refine Z63 ?_;refine G.call Tryz.call77 (fun hB=>c77 m.back h.back _) ?_;refine Z68 ?_;refine R.fin [1,3,4,38] ?_
 refine W.cond (fun ht38=>?_) (fun ht38=>?_)
 ·simp only [List.length_map] at ht38
  have hm:=w4 ht38
  exact n7
 simp only [List.length_map] at ht38
 obtain ⟨hck,hm0⟩:=w5 ht38
 refine Mf ?_;refine R.fin [1,3,4,5] ?_
 refine W.join ⟨178,A6 1 (.ro (I0 m)) (A6 3 (A3 (m.take.length:Nat)) (A6 4 (A3 (m.give.length:Nat)) (A6 5 (Ap (I8 m)) (fun _=>.any)))),Hp,[],[],none⟩ ?_ ?_
 ·refine Z3 ?_;refine R.fin [1,3,4,5,40] ?_;refine Z69 ?_;refine R.fin [1,3,4,5,40,41] ?_
  refine W.cond (fun ht41=>?_) (fun ht41=>?_)
  ·refine je ?_;refine K.thJ ?_;exact StLe.of_eq (by unfold I8;first|(simp only [ht38,ht41,hk3,hk6,Bool.true_or,Bool.false_or,Bool.or_true,Bool.or_false,if_true,if_false,Bool.false_eq_true,↓reduceIte]<;>rfl)|(simp only [ht38,ht41,hk3,Bool.true_or,Bool.false_or,Bool.or_true,if_true,if_false,Bool.false_eq_true,↓reduceIte]<;>rfl)|(simp only [ht38,ht41,if_true,if_false,Bool.false_eq_true,↓reduceIte]<;>rfl))
  refine Z3 ?_;refine R.fin [1,3,4,5,40,49] ?_
  refine W.cond (fun ht49=>?_) (fun ht49=>?_)
  ·refine je ?_;refine K.thJ ?_;exact StLe.of_eq (by unfold I8;first|(simp only [ht38,ht41,ht49,hk3,hk6,Bool.true_or,Bool.false_or,Bool.or_true,Bool.or_false,if_true,if_false,Bool.false_eq_true,↓reduceIte]<;>rfl)|(simp only [ht38,ht41,ht49,hk3,Bool.true_or,Bool.false_or,Bool.or_true,if_true,if_false,Bool.false_eq_true,↓reduceIte]<;>rfl)|(simp only [ht38,ht41,ht49,if_true,if_false,Bool.false_eq_true,↓reduceIte]<;>rfl))
  refine Z31 ?_;refine R.fin [1,3,4,5,40,57] ?_
  refine W.cond (fun ht57=>?_) (fun ht57=>?_)
  ·have hk3:=ht57
   refine Z5 ?_
   refine W.cond (fun ht57=>?_) (fun ht57=>?_)
   ·refine je ?_;exact Z42
   rw [hk3] at ht57;cases ht57
  have hk3:=ht57
  refine Z30 ?_;refine R.fin [1,3,4,5,40,57] ?_;refine K.thN ?_
  refine W.cond (fun ht57=>?_) (fun ht57=>?_)
  ·have hk6:=ht57
   refine je ?_;exact Z42
  have hk6:=ht57
  refine Z3 ?_;refine R.fin [1,3,4,5,40,66] ?_
  refine W.cond (fun ht66=>?_) (fun ht66=>?_)
  ·refine je ?_;refine K.thJ ?_;exact StLe.of_eq (by unfold I8;first|(simp only [ht38,ht41,ht49,ht57,ht57,ht66,hk3,hk6,Bool.true_or,Bool.false_or,Bool.or_true,Bool.or_false,if_true,if_false,Bool.false_eq_true,↓reduceIte]<;>rfl)|(simp only [ht38,ht41,ht49,ht57,ht57,ht66,hk3,Bool.true_or,Bool.false_or,Bool.or_true,if_true,if_false,Bool.false_eq_true,↓reduceIte]<;>rfl)|(simp only [ht38,ht41,ht49,ht57,ht57,ht66,if_true,if_false,Bool.false_eq_true,↓reduceIte]<;>rfl))
  refine Z3 ?_;refine R.fin [1,3,4,5,74] ?_
  refine W.cond (fun ht74=>?_) (fun ht74=>?_)
  ·refine je ?_;exact Z38
  refine W.keep [1,3,4,5] ?_;refine AW.skip ?_;refine K.blN ?_;exact Z38
 refine Z31 ?_;refine R.fin [1,3,4,83] ?_
 refine W.cond (fun ht83=>?_) (fun ht83=>?_)
 ·have hkf:I8 m=false:=by simpa using ht83
  have hm:Cf m=false:=by rw [hm0,hkf];rfl
  exact n7
 have hkm:I8 m=true:=by simpa using ht83
 have hct:Bs m=true:=hck.trans hkm
 obtain ⟨hl3,hl4⟩:=Dq hct
 refine Mg ?_;refine R.fin [1,3,4,6] ?_
 refine AW.loopC (α:=Nat) (fun x=>⟨178,A6 1 (.ro (I0 m)) (A6 3 (A3 (m.take.length:Nat)) (A6 4 (A3 (m.give.length:Nat)) (A6 6 (A3 (x:Nat)) (fun _=>.any)))),Hp,[],[],none⟩) (fun x=>x≤m.take.length∧∀(j:Nat) (y:Str),j<x→m.take[j]? = some y→(!Bf y)=false) (fun x=>m.take.length-x) (0) ⟨Nat.zero_le _,fun j y h=>by omega⟩ (StLe.of_eq (by simp)) rfl (fun x hx=>?_)
 refine Z22 ?_;refine R.fin [1,3,4,6,86] ?_
 refine W.cond (fun ht86=>?_) (fun ht86=>?_)
 ·have hlt:x<m.take.length:=by simpa using ht86
  have htk:=h.takes
  refine T6 ?_
  refine R.go (h:=Q.indexAddr (x) (Aa m.take[x]) (fun _=>Am hlt)) (hr:=?_)
  refine R.go ?_;refine R.call Tryz.call78 (c78 m.take[x] (h.names _ (List.getElem_mem hlt)) _) ?_;refine R.go ?_;refine R.fin [1,3,4,6,95] ?_
  refine W.cond (fun ht95=>?_) (fun ht95=>?_)
  ·rw [←Cy] at ht95
   have hm:Cf m=false:=by
    rw [hm0,List.all_eq_false.2 ⟨_,List.getElem_mem hlt,by simpa using ht95⟩]
    simp
   refine Z12 ?_;exact Xf
  rw [←Cy] at ht95
  refine Z58 ?_;refine R.fin [1,3,4,6] ?_;exact K.lpN (x+1) ⟨hlt,Az hlt hx.2 ht95⟩ (by omega) (StCut.of_eq rfl)
 have hxe:m.take.length≤x:=by simpa using ht86
 have hta:m.take.all Bf=true:=by have:=F9 hxe hx.2;rw [Fb] at this;simpa using this
 refine Z47 ?_;refine Z8 ?_;refine R.fin [1,4,7] ?_
 refine AW.loopC (α:=Nat) (fun k=>⟨178,A6 1 (.ro (I0 m)) (A6 4 (A3 (m.give.length:Nat)) (A6 7 (A3 (k:Nat)) (fun _=>.any))),Hp,[],[],none⟩) (fun k=>k≤m.give.length∧∀(j:Nat) (y:Col),j<k→m.give[j]? = some y→(!Ef m y)=false) (fun k=>m.give.length-k) (0) ⟨Nat.zero_le _,fun j y h=>by omega⟩ (StLe.of_eq (by simp)) rfl (fun k hk=>?_)
 refine Z22 ?_;refine R.fin [1,4,7,98] ?_
 refine W.cond (fun ht98=>?_) (fun ht98=>?_)
 ·have hlk:k<m.give.length:=by simpa using ht98
  have hgl:=h.gives2
  refine T6 ?_
  refine R.go (h:=Q.indexAddr (k) (Bu m.give[k]) (fun _=>Am hlk)) (hr:=?_)
  refine Z6 ?_;refine R.fin [1,4,7,8] ?_;refine Z19 ?_
  refine R.go (h:=Q.indexAddr (k) (Bu m.give[k]) (fun _=>Am hlk)) (hr:=?_)
  refine Z1 ?_;refine R.call Tryz.call78 (c78 m.give[k].name (h.gives.2 _ (List.getElem_mem hlk)) _) ?_;refine Z29 ?_;refine jg ?_;refine Z53 ?_;refine Z53 ?_;refine Z68 ?_;refine R.fin [1,4,7,136] ?_
  refine W.cond (fun ht136=>?_) (fun ht136=>?_)
  ·rw [←Cy,Us] at ht136
   have hm:Cf m=false:=by
    rw [hm0,List.all_eq_false.2 ⟨_,List.getElem_mem hlk,by simpa using ht136⟩]
    simp
   refine Z12 ?_;exact Xf
  rw [←Cy,Us] at ht136
  refine Z58 ?_;refine R.fin [1,4,7] ?_;exact K.lpN (k+1) ⟨hlk,Az hlk hk.2 ht136⟩ (by omega) (StCut.of_eq rfl)
 have hke:m.give.length≤k:=by simpa using ht98
 have hga:m.give.all (Ef m)=true:=by have:=F9 hke hk.2;rw [Fb] at this;simpa using this
 have hm1:Cf m=E8 m:=by rw [hm0,hkm,hga,hta];rfl
 have g1:=fun h0=>Ju (f:=A5) (l:=m.ahead) (d:=Ad) h0
 have g2:=fun h0=>Ju (f:=A5) (l:=m.back) (d:=Ad) h0
 have g3:=fun h0=>Ju (f:=Aa) (l:=m.take) (d:=[]) h0
 have g4:=fun h0=>Ju (f:=Bu) (l:=m.give) (d:=⟨[],0⟩) h0
 refine Z47 ?_;refine Z22 ?_;refine R.fin [1,139] ?_
 refine W.cond (fun ht139=>?_) (fun ht139=>?_)
 ·obtain ⟨hl1,hl2⟩:=Iz hct (by rw [ht139];simp)
  have hm:=hm1.trans (w7 ht139)
  refine AAk ?_
  refine D.go (h:=Q.indexAddr (0) (Aa (m.take.getD 0 [])) (fun _=>g3 (by omega))) (hr:=?_)
  refine Z37 ?_
  refine D.go (h:=Q.indexAddr (0) (Bu (m.give.getD 0 ⟨[],0⟩)) (fun _=>g4 (by omega))) (hr:=?_)
  refine Z9 ?_;refine D.tail ?_;refine Z36 ?_;exact Z20
 have hm:=hm1.trans (w6 ht139)
 have len3:((m.kind != 3)==false)=true→0<m.ahead.length∧0<m.take.length∧0<m.back.length∧0<m.give.length:=fun hB=>by
  obtain ⟨a1,a2⟩:=Iz hct (by simp at hB;rw [hB];rfl)
  omega
 have and3:∀{b:Bool},(((m.kind != 3)==false)&&b)=true→((m.kind != 3)==false)=true:=fun h=>ADy h
 refine Z5 ?_;refine W.drawQ [0,1,3,7,15,31,63,127,15,271,783,1807,3855,8191,16383,32767,65535,131071,262143,32767,557055,1605631,3702783,7897087,16285695,33554431,67108863,134217727,268435455] 25 Ab (by kernel_rfl) ?_;refine Pi ?_;refine Z77 ?_
 refine H.go (h:=Q.indexAddr (0) (A5 (m.ahead.getD 0 Ad)) (fun hB=>g1 (len3 hB).1)) (hr:=?_)
 refine jf ?_
 refine H.go (h:=Q.indexAddr (0) (Aa (m.take.getD 0 [])) (fun hB=>g3 (len3 hB).2.1)) (hr:=?_)
 refine H.go ?_;refine H.build (places:=#[(0,1),(1,1),(2,3),(5,1)]) jU (fun w=>by simp) jZ ?_;refine H.call Tryz.call28 (fun hB=>AC3 (m.ahead.getD 0 Ad) (h.ahead.ok _ (J3 (len3 hB).1)) (m.take.getD 0 []) _) ?_;refine jf ?_
 refine H.go (h:=Q.indexAddr (0) (A5 (m.back.getD 0 Ad)) (fun hB=>g2 (len3 (and3 hB)).2.2.1)) (hr:=?_)
 refine jf ?_
 refine H.go (h:=Q.indexAddr (0) (Bu (m.give.getD 0 ⟨[],0⟩)) (fun hB=>g4 (len3 (and3 hB)).2.2.2)) (hr:=?_)
 refine Z77 ?_;refine H.build (places:=#[(0,1),(1,1),(2,3),(5,1)]) jU (fun w=>by simp) jZ ?_;refine D.tail ?_;refine G.call Tryz.call28 (fun hB=>AC3 (m.back.getD 0 Ad) (h.back.ok _ (J3 (len3 (and3 hB)).2.2.1)) (m.give.getD 0 ⟨[],0⟩).name _) ?_;refine G.go ?_;exact AAi

theorem c16 (l:List Mov) (h:OkMovs l) (Hp:List AObj):AFun Tryz.prog 16 [Ca l] Hp (Ap (I1 l)):=by
 refine ACall.body [.tmp 2] [0] Tryz.func16 Tryz.ntmps16 (fun d=>?_)
 refine Z46 ?_;refine Z22 ?_;refine R.fin [0,6] ?_
 refine W.cond (fun ht6=>?_) (fun ht6=>?_)
 ·rw [List.length_map] at ht6
  have hm:I1 l=false:=by
   unfold I1
   rw [show decide ((l.length:Int)≤8)=false by simp at ht6 ⊢;omega]
   rfl
  exact Z92
 rw [List.length_map] at ht6
 have h8:decide ((l.length:Int)≤8)=true:=by simp at ht6 ⊢;omega
 have hl8:l.length≤8:=by simp at h8;omega
 refine Mg ?_;refine Hu ?_
 refine AW.loopC (α:=Nat) (fun x=>⟨19,A6 0 (Ca l) (A6 3 (A3 (x:Nat)) (fun _=>.any)),Hp,[],[],none⟩) (fun x=>x≤l.length∧∀(j:Nat) (y:Mov),j<x→l[j]? = some y→(!Cf y)=false) (fun x=>l.length-x) (0) ⟨Nat.zero_le _,fun j y h=>by omega⟩ (StLe.of_eq (by simp)) rfl (fun x hx=>?_)
 refine Z55 ?_;refine R.fin [0,3,10] ?_
 refine W.cond (fun ht10=>?_) (fun ht10=>?_)
 ·have hlt:x<l.length:=by simpa using ht10
  refine Vp ?_
  refine R.go (h:=Q.indexAddr (x) (Dp l[x]) (fun _=>Am hlt)) (hr:=?_)
  refine R.go ?_;refine R.call Tryz.call38 (c38 l[x] (h.each _ (List.getElem_mem hlt)) _) ?_;refine R.go ?_;refine R.fin [0,3,18] ?_
  refine W.cond (fun ht18=>?_) (fun ht18=>?_)
  ·have hm:I1 l=false:=by
    unfold I1
    rw [List.all_eq_false.2 ⟨_,List.getElem_mem hlt,by simpa using ht18⟩]
    simp
   refine Z12 ?_;exact Z57
  refine n6 ?_;exact K.lpN (x+1) ⟨hlt,Az hlt hx.2 ht18⟩ (by omega) (StCut.of_eq rfl)
 have hxe:l.length≤x:=by simpa using ht10
 have hm:I1 l=true:=by
  have h2:=F9 hxe hx.2
  rw [Fb] at h2
  unfold I1
  rw [h8]
  simpa using h2
 exact tc

theorem Lc {n k:Nat} {o:Bool} {l:List Str}:Low n (.slice o k (l.map Aa)):=by simp [or_imp,forall_and]
theorem dc {n k:Nat} {o:Bool} {a:List Expr} {e:Expr}:Low n (.slice o k (a.map A5++[A5 e])):=low_slice.2 fun y hy=>by
 rcases List.mem_append.1 hy with h|h
 ·obtain ⟨m,_,rfl⟩:=List.mem_map.1 h
  exact Aj _ _
 rw [List.mem_singleton.1 h]
 exact Aj _ _
theorem Sm {n k:Nat} {o:Bool} {a:List Expr}:Low n (.slice o k (a.map A5)):=low_slice.2 fun y hy=>by
 obtain ⟨m,_,rfl⟩:=List.mem_map.1 hy
 exact Aj _ _
/-! fuse: trees in columns' places. -/
mutual
def putF (c:List Col) (l:List Expr):Expr→Option Expr
 | .mk o t v k=>if o==2 then (if ee t c<0 then none else some (l.getD (ee t c).toNat Ad)) else (x8 c l k).map fun k'=>.mk o t v k'
def x8 (c:List Col) (l:List Expr):List Expr→Option (List Expr)
  | []=>some []
  | e::r=>match putF c l e with
    | none=>none
    | some y=>(x8 c l r).map fun s=>y::s
 end
theorem El {k:List Expr} {i:Nat} (h:i<k.length):(k.map A5)[i]? = some (A5 (k.getD i Ad))∧k.getD i Ad∈k∧∀(f:Expr→Rs) (d:Rs),(k.map f).getD i d=f (k.getD i Ad):=by
 have e:k.getD i Ad=k[i]:=by rw [List.getD_eq_getElem?_getD,List.getElem?_eq_getElem h];rfl
 rw [e]
 refine ⟨by simp [h],List.getElem_mem h,fun f d=>?_⟩
 rw [List.getD_eq_getElem?_getD,List.getElem?_map,List.getElem?_eq_getElem h]
 rfl
theorem Yy {e:Expr} (h:At e=true):(e.op=5→e.kids.length=2)∧(e.op=3∨e.op=4→e.kids.length=1)∧(e.op=6→B5 e.text=(e.kids.length:Int))∧(e.op=1∨e.op=2∨e.op=3∨e.op=4∨e.op=5∨e.op=6):=by
 cases Fi h with
 | val v hp h0=>simp [Ff,Expr.op]
 | name t ht=>simp [Aq,Expr.op]
 | neg a=>simp [Bq,Expr.op,Expr.kids]
 | no a=>simp [Bq,Expr.op,Expr.kids]
 | bin t a b ht=>simp [C6,Expr.op,Expr.kids]
 | call t k ht=>simpa [Expr.op,Expr.kids,Expr.text] using ht
def M5 (s:Str):Int:=if s==[111,114] then 0 else if s==[97,110,100] then 1 else if (((((s==[61]) || (s==[33,61])) || (s==[60])) || (s==[60,61])) || (s==[62])) || (s==[62,61]) then 3 else if ((s==[43]) || (s==[45])) || (s==[38]) then 4 else if ((s==[42]) || (s==[47])) || (s==[37]) then 5 else 7
theorem Oi (s:Str):M5 s=if 0≤Ae s then Ae s else 7:=by
 by_cases hf:s∈levels.flatten
 ·have h3:(levels.flatten.all fun s=>decide (M5 s=if 0≤Ae s then Ae s else 7))=true:=by kernel_rfl
  exact of_decide_eq_true (List.all_eq_true.1 h3 s hf)
 have hn:=hf
 have h:Ae s = -1:=by
  rcases Fq s with h|⟨h,_⟩
  ·exact absurd h hf
  exact h
 rw [h]
 simp only [levels,List.flatten_cons,List.flatten_nil,List.append_nil,List.cons_append,List.nil_append,List.mem_cons,List.not_mem_nil,or_false,not_or] at hn
 obtain ⟨a1,a2,a3,a4,a5,a6,a7,a8,a9,b1,b2,b3,b4,b5⟩:=hn
 simp [M5, *]
/-- The level of a node. -/
def M6 (e:Expr):Int:=if e.op==4 then 2 else if e.op==3 then 6 else if e.op==5 then M5 e.text else 7
theorem Q3 {e:Expr} (h:At e=true):M6 e=(levE e:Int):=by
 unfold M6 levE
 split
 ·rfl
 split
 ·rfl
 split
 ·rename_i h5
  have hb:0≤Ae e.text:=by
   have h5':e.op=5:=by simpa using h5
   rw [Et] at h
   unfold Dx at h
   simp [h5'] at h
   exact h.2.1
  rw [Oi,if_pos hb]
  omega
 rfl
theorem AE0 (s:Str) (Hp:List AObj):AFun Tryz.prog 199 [Aa s] Hp (A3 (M5 s)):=by
 refine ACall.body [.tmp 2] [0] Tryz.func199 Tryz.ntmps199 (fun d=>?_)
 refine Z46 ?_;refine Z8 ?_;refine R.fin [3] ?_;refine Z69 ?_;refine R.fin [3,4] ?_
 refine W.cond (fun ht4=>?_) (fun ht4=>?_)
 ·exact n8
 refine Z3 ?_;refine R.fin [3,6] ?_
 refine W.cond (fun ht6=>?_) (fun ht6=>?_)
 ·exact n8
 refine W.join ⟨23,A6 3 (Aa s) (A6 8 (Ap ((((((s==[61]) || (s==[33,61])) || (s==[60])) || (s==[60,61])) || (s==[62])) || (s==[62,61]))) (fun _=>.any)),Hp,[],[],none⟩ ?_ ?_
 ·refine nb ?_
  refine W.cond (fun ht8=>?_) (fun ht8=>?_)
  ·exact my
  refine nb ?_
  refine W.cond (fun ht8=>?_) (fun ht8=>?_)
  ·exact my
  refine nb ?_
  refine W.cond (fun ht8=>?_) (fun ht8=>?_)
  ·exact my
  refine nb ?_
  refine W.cond (fun ht8=>?_) (fun ht8=>?_)
  ·exact my
  refine nb ?_
  refine W.cond (fun ht8=>?_) (fun ht8=>?_)
  ·exact my
  refine Z30 ?_;refine R.fin [3,8] ?_;exact Z49
 refine W.cond (fun ht8=>?_) (fun ht8=>?_)
 ·exact n8
 refine W.join ⟨23,A6 3 (Aa s) (A6 15 (Ap (((s==[43]) || (s==[45])) || (s==[38]))) (fun _=>.any)),Hp,[],[],none⟩ ?_ ?_
 ·refine Z3 ?_;refine R.fin [3,15] ?_
  refine W.cond (fun ht15=>?_) (fun ht15=>?_)
  ·refine W.keep [3,15] ?_;exact Z90
  refine Z3 ?_;refine R.fin [3,15] ?_
  refine W.cond (fun ht15=>?_) (fun ht15=>?_)
  ·refine W.keep [3,15] ?_;exact Z90
  refine Z30 ?_;refine R.fin [3,15] ?_;exact Z49
 refine W.cond (fun ht15=>?_) (fun ht15=>?_)
 ·exact n8
 refine W.join ⟨23,A6 19 (Ap (((s==[42]) || (s==[47])) || (s==[37]))) (fun _=>.any),Hp,[],[],none⟩ ?_ ?_
 ·refine Z3 ?_;refine R.fin [3,19] ?_
  refine W.cond (fun ht19=>?_) (fun ht19=>?_)
  ·refine W.keep [19] ?_;exact Z90
  refine Z3 ?_;refine R.fin [3,19] ?_
  refine W.cond (fun ht19=>?_) (fun ht19=>?_)
  ·refine W.keep [19] ?_;exact Z90
  refine Z30 ?_;refine R.fin [19] ?_;exact Z49
 refine W.cond (fun ht19=>?_) (fun ht19=>?_)
 ·exact n8
 refine Xh ?_;exact K.fin (V.one V.tmp) ⟨by simp_all [M5],rfl⟩

theorem AC4 (e:Expr) (Hp:List AObj):AFun Tryz.prog 169 [A5 e] Hp (A3 (M6 e)):=by
 refine ACall.body [.tmp 2] [0] Tryz.func169 Tryz.ntmps169 (fun d=>?_)
 refine Z54 ?_;refine Z31 ?_;refine R.fin [1,4] ?_;refine Z69 ?_;refine R.fin [1,4,5] ?_
 refine W.cond (fun ht5=>?_) (fun ht5=>?_)
 ·refine Z12 ?_;exact xj
 refine Z3 ?_;refine R.fin [1,4,7] ?_
 refine W.cond (fun ht7=>?_) (fun ht7=>?_)
 ·refine Z12 ?_;exact xj
 refine Z3 ?_;refine R.fin [1,9] ?_
 refine W.cond (fun ht9=>?_) (fun ht9=>?_)
 ·refine Z3 ?_;refine R.call Tryz.call199 (AE0 e.text _) ?_;refine Z70 ?_;exact xj
 refine Xh ?_;exact K.fin (V.one V.tmp) ⟨by simp_all [M6],rfl⟩

end Go.SX.Nb
namespace Go.Proofs
open Go.Shelf Go.RowKit

section
variable {P:Program} (w:World)

/-- Bytes behind a builder's bytes: what is handed back lies where it lay, or in the next block, or nowhere still. -/
theorem lh {t u ty e:TypeId} {i:TypeInfo} (ht:P.underlying t=some (.slice e)) (hu:P.underlying u=some .string) (hi:P.info? e=some i) (hz:i.zero=some (.int .u8 0)) (hsize:i.size=1) (hby:i.bytes=1)
  (v:Value) (n:Nat) (xs:List Value) (hown:w.ownsRow 0 e 1 v n xs) (s:ByteArray) (hb:n+s.size≤140737488355328):
  ∃v' w',(Builtin.append_ #[t,u] ty #[v,.string s]).run P w=.ok v' w'∧w'.ownsRow 0 e 1 v' (n+s.size) (xs++Lib.strCells s)∧w.grownBy w' v'.ownBlock ∧
   ((v=.slice none 0 0∧v'=v∧s.size=0)∨(∃g cap,v=.slice (some ⟨g,0,none⟩) n cap∧v'=.slice (some ⟨g,0,none⟩) (n+s.size) cap)∨∃cap,v'=.slice (some ⟨w.heap.size,0,none⟩) (n+s.size) cap∧0<n+s.size):=by
 have h63:n+s.size≤maxLen:=by unfold maxLen;omega
 obtain ⟨v',w',hr,h1,h2,h3⟩:=Lib.run_append_own_string (P:=P) w 0 t u ty e i ht hu hi hz hsize hby v n xs hown s h63 hb (Nat.zero_le _)
 have hxl:xs.length=n:=by simpa using hown.1
 refine ⟨v',w',hr,h1,?_⟩
 rcases hown.2 with ⟨rfl,rfl⟩|⟨g,cap,cur,rfl,hbg,hg,hnc,hcm,hcs,htake⟩
 ·by_cases hm:s.size=0
  ·have e1:=h3.2 ⟨rfl,hm⟩
   exact ⟨by rw [e1];exact h2,.inl ⟨rfl,e1,hm⟩⟩
  have hr2:=run_append_nil_string (P:=P) w t u ty e i (.int .u8 0) ht hu hi hz s (by omega) (by omega) (by rw [hby];omega)
  rw [hr] at hr2
  injection hr2 with e1 e2
  refine ⟨?_,.inr (.inr ⟨_,by rw [e1,Nat.zero_add],by omega⟩)⟩
  rw [e2]
  exact ⟨rfl,rfl,rfl,by simp,fun k hk _=>Lib.alloc_old w.drew _ k hk⟩
 by_cases hroom:n+s.size≤cap
 ·have hcs':cur.size=cap:=by simpa using hcs
  have hr2:=Lib.run_append_room_string (P:=P) w t u ty e i ht hu hi hsize g n cap cur hg s hroom (by omega)
  rw [hr] at hr2
  injection hr2 with e1 e2
  exact ⟨by rw [e1];exact h2,.inr (.inl ⟨g,cap,rfl,e1⟩)⟩
 have holds:∀j u,xs[j]? = some u→w.cell? ((⟨g,0,none⟩:Addr).add j)=some u:=hown.cells (g:=g) rfl
 have hr2:=Lib.run_append_grow_string (P:=P) w t u ty e i (.int .u8 0) ht hu hi hz ⟨g,0,none⟩ n cap xs (by rw [hsize];simpa using hxl) holds s (by omega) (by omega) (by rw [hby];exact growslice_fits (by omega) (by omega))
 rw [hr] at hr2
 injection hr2 with e1 e2
 refine ⟨?_,.inr (.inr ⟨_,e1,by omega⟩)⟩
 rw [e2]
 exact ⟨rfl,rfl,rfl,by simp,fun k hk _=>Lib.alloc_old w.drew _ k hk⟩
end

theorem Oj {P:Program} {w w':World} {ops:Array Oper} {rest:List Oper} {o:Oper} {a:Act} {Q:Exit→Act→World→Prop} {v v':Value} {s:ByteArray} (hgd:o.guard=none) (sl x:Operand) (t u ty:TypeId)
  (ho:o.op=.call { callee:=.builtin .append,args:=#[sl,x],argTypes:=#[t,u] }) (hty:o.type=ty) (hs:a.eval sl=v) (hx:a.eval x=.string s) (hrun:(Builtin.append_ #[t,u] ty #[v,.string s]).run P w=.ok v' w')
  (h:wpList P ops Q rest (a.put o.dst v') w'):wpList P ops Q (o::rest) a w:=by
 refine wpList_plain hgd fun K hK=>?_
 subst hty
 unfold Oper.wp execOp
 simp only [ho,resolve,invoke,builtin,Sem.run_bind,Sem.run_pure,Result.andThen_ok,List.map_toArray,List.map_cons,List.map_nil,hs,hx,hrun]
 exact hK _ _ h

section
variable {P:Program} {ρ:Ren}

set_option maxHeartbeats 1000000 in
set_option maxRecDepth 100000 in
/-- The check of an unused builder within a block of type T. -/
theorem li (L:Lays.n240 P ρ) (X:Builder.X72 P ρ) {T:TypeId} (hl:liesAt P P.depth T (2 / P.cellsOf T) 0 (ρ.t 72) 1=true) (b:Nat) (w:World) (h0:w.cell? ⟨b,0,none⟩=some (.pointer none)) (hsh:w.shape? b=some (T,2)) (hfz:w.frozen? ⟨b,0,none⟩=false):
  Calls P (ρ.f 240) #[.pointer (some ⟨b,0,none⟩)] w fun e w'=>e=.returned (.tuple #[])∧w'=w.setCell ⟨b,0,none⟩ (.pointer (some ⟨b,0,none⟩)):=by
 obtain ⟨j,hj,hjs⟩:=Option.map_eq_some_iff.1 X.sizeBuilder
 have mixed:=L.mixed
 have t72:=L.t72;have a72:=L.a72;have z72:=L.z72;have v72:=L.v72;have u72:=run_underlying L.t72
 have t70:=L.t70;have a70:=L.a70;have z70:=L.z70;have v70:=L.v70;have u70:=run_underlying L.t70
 have t9:=L.t9;have a9:=L.a9;have z9:=L.z9;have v9:=L.v9;have u9:=run_underlying L.t9
 have t4:=L.t4;have a4:=L.a4;have z4:=L.z4;have v4:=L.v4;have u4:=run_underlying L.t4
 have t164:=L.t164;have a164:=L.a164;have z164:=L.z164;have v164:=L.v164;have u164:=run_underlying L.t164
 go_enter L.f240,Body.n240_ntmps ρ
 go_wp2
 rw [Lib.run_to_unsafe w ⟨b,0,none⟩ L.t70 L.t164 hj (by rw [hjs];decide) hsh (Nat.zero_lt_succ 1)]
 simp only [Result.andThen]
 rw [Oper.upon_value]
 go_wp2
 rw [run_callFunc_extern L.f276 (by kernel_rfl) (by kernel_rfl) (by kernel_rfl) (e:=Extern.AbiNoEscape.same) (by kernel_rfl)]
 rw [Lib.run_noEscape]
 simp only [Result.andThen]
 rw [Oper.upon_value]
 go_wp2
 rw [Lib.run_from_unsafe w ⟨b,0,none⟩ L.t164 L.t70 hj hsh hl]
 simp only [Result.andThen]
 rw [Oper.upon_value]
 go_wp2
 go_end0
 exact ⟨rfl,rfl⟩

/-- The check: behind it the first cell holds the builder's own address; nothing else turns. -/
theorem r8 (L:Lays.n240 P ρ) (X:Builder.X72 P ρ) {T e:TypeId} (hl:liesAt P P.depth T (2 / P.cellsOf T) 0 (ρ.t 72) 1=true) (b:Nat) (p v:Value) (n:Nat) (bs:List Value) (w:World) (h:K8 T e b p v n bs w):
  Calls P (ρ.f 240) #[.pointer (some ⟨b,0,none⟩)] w fun e' w'=>e'=.returned (.tuple #[])∧K8 T e b (.pointer (some ⟨b,0,none⟩)) v n bs w'∧w.grownBy w' (some b)∧w'.heap.size=w.heap.size:=by
 obtain ⟨h1,hp,h3,h4⟩:=h
 rcases hp with rfl|rfl
 ·refine (li L X hl b w (by rw [Lib.cell_of_heap h1];rfl) (by simp [World.shape?,h1]) (Lib.frozen_of_heap h1 0)).mono ?_
  rintro e' w' ⟨rfl,rfl⟩
  have hgr:w.grownBy (w.setCell ⟨b,0,none⟩ (.pointer (some ⟨b,0,none⟩))) (some b):=⟨rfl,rfl,rfl,by simp [World.setCell],fun k _ hk=>Below.heap_setCell _ _ _ _ (fun e=>hk (by simp [e]))⟩
  exact ⟨rfl,⟨by simp [World.setCell,Array.getElem?_modify,h1],.inr rfl,h3.kept hgr (.inr h4),h4⟩,hgr,by simp [World.setCell]⟩
 refine (Any.Builder_copyCheck_used L X b w (by rw [Lib.cell_of_heap h1];rfl)).mono ?_
 rintro e' w' ⟨rfl,rfl⟩
 exact ⟨rfl,⟨h1,.inr rfl,h3,h4⟩,⟨rfl,rfl,rfl,Nat.le_refl _,fun _ _ _=>rfl⟩,rfl⟩

set_option maxHeartbeats 1000000 in
set_option maxRecDepth 100000 in
/-- How many bytes there are. -/
theorem bldLen (L:Lays.n170 P ρ) {T e:TypeId} (b:Nat) (p v:Value) (n:Nat) (bs:List Value) (w:World) (h:K8 T e b p v n bs w):
  Calls P (ρ.f 170) #[.pointer (some ⟨b,0,none⟩)] w fun e' w'=>e'=.returned (.int .i64 n)∧w'=w:=by
 obtain ⟨h1,_,h3,_⟩:=h
 obtain ⟨ao,cap,rfl⟩:∃ao cap,v=.slice ao n cap:=by
  rcases h3.2 with ⟨hv,h0⟩|⟨g,cap,cur,hv,_⟩
  ·exact ⟨none,0,by rw [hv,h0]⟩
  exact ⟨_,_,hv⟩
 have c1:w.cell? ⟨b,1,none⟩=some (.slice ao n cap):=by rw [Lib.cell_of_heap h1];rfl
 have mixed:=L.mixed
 have t72:=L.t72;have a72:=L.a72;have z72:=L.z72;have v72:=L.v72;have u72:=run_underlying L.t72
 have t70:=L.t70;have a70:=L.a70;have z70:=L.z70;have v70:=L.v70;have u70:=run_underlying L.t70
 have t37:=L.t37;have a37:=L.a37;have z37:=L.z37;have v37:=L.v37;have u37:=run_underlying L.t37
 have t3:=L.t3;have a3:=L.a3;have z3:=L.z3;have v3:=L.v3;have u3:=run_underlying L.t3
 go_enter L.f170,Body.n170_ntmps ρ
 go_wp2
 go_ret
 exact ⟨rfl,rfl⟩

set_option maxHeartbeats 2000000 in
set_option maxRecDepth 100000 in
/-- A text is written behind it. -/
theorem bldWrite (L:Lays.n166 P ρ) (X:Builder.Extra P ρ) {T:TypeId} (hl:liesAt P P.depth T (2 / P.cellsOf T) 0 (ρ.t 72) 1=true) (hTe:T≠ρ.t 5) (b:Nat) (p v:Value) (n:Nat) (bs:List Value) (s:ByteArray) (w:World) (h:K8 T (ρ.t 5) b p v n bs w)
  (hlen:n+s.size≤140737488355328):
  Calls P (ρ.f 166) #[.pointer (some ⟨b,0,none⟩),.string s] w fun e w'=>e=.returned (.tuple #[.int .i64 s.size,.nilIface])∧∃v',K8 T (ρ.t 5) b (.pointer (some ⟨b,0,none⟩)) v' (n+s.size) (bs++Lib.strCells s) w' ∧
   (w'.os=w.os∧w'.tape=w.tape∧w'.output=w.output∧w.heap.size≤w'.heap.size)∧(∀k,k<w.heap.size→k≠b→v'.ownBlock≠some k→w'.heap[k]? = w.heap[k]?) ∧
   ((v=.slice none 0 0∧v'=v∧s.size=0)∨(∃g cap,v=.slice (some ⟨g,0,none⟩) n cap∧v'=.slice (some ⟨g,0,none⟩) (n+s.size) cap)∨∃cap,v'=.slice (some ⟨w.heap.size,0,none⟩) (n+s.size) cap∧0<n+s.size):=by
 obtain ⟨i0,hi,hz0,hz1,hz2⟩:=info_parts X.infoByte
 have mixed:=L.mixed
 have t72:=L.t72;have a72:=L.a72;have z72:=L.z72;have v72:=L.v72;have u72:=run_underlying L.t72
 have t70:=L.t70;have a70:=L.a70;have z70:=L.z70;have v70:=L.v70;have u70:=run_underlying L.t70
 have t37:=L.t37;have a37:=L.a37;have z37:=L.z37;have v37:=L.v37;have u37:=run_underlying L.t37
 have t3:=L.t3;have a3:=L.a3;have z3:=L.z3;have v3:=L.v3;have u3:=run_underlying L.t3
 have t9:=L.t9;have a9:=L.a9;have z9:=L.z9;have v9:=L.v9;have u9:=run_underlying L.t9
 have t4:=L.t4;have a4:=L.a4;have z4:=L.z4;have v4:=L.v4;have u4:=run_underlying L.t4
 have t164:=L.t164;have a164:=L.a164;have z164:=L.z164;have v164:=L.v164;have u164:=run_underlying L.t164
 have t5:=X.t5;have a5:=X.a5;have z5:=X.z5;have v5:=X.v5;have u5:=run_underlying X.t5
 have e240:∀args w,(callFunc (ρ.f 240) args).run P w=.ok (.enter (ρ.f 240) args) w:=enters_of L.f240 (by kernel_rfl) rfl
 go_enter L.f166,Body.n166_ntmps ρ
 go_wp2_with (go_at_fn (ρ.f 240);refine (r8 { L with } X.toX72 hl b p v n bs _ h).mono ?_)
 rintro e w1 ⟨rfl,⟨hbk,_,hown,hne⟩,hg1,hs1⟩
 have c0:w1.cell? ⟨b,0,none⟩=some (.pointer (some ⟨b,0,none⟩)):=by rw [Lib.cell_of_heap hbk];rfl
 have c1:w1.cell? ⟨b,1,none⟩=some v:=by rw [Lib.cell_of_heap hbk];rfl
 obtain ⟨v',w2,hrun,hown',hgrow,hcase⟩:=lh (P:=P) w1 (ty:=ρ.t 37) L.t37 L.t9 hi hz0 hz1 hz2 v n bs hown s hlen
 have hlt:b<w1.heap.size:=(Array.getElem?_eq_some_iff.1 hbk).1
 have hne':v'.ownBlock≠some b:=by
  rcases hcase with ⟨_,e1,_⟩|⟨g,cap,e1,e2⟩|⟨cap,e1,_⟩
  ·rw [e1];exact hne
  ·rw [e2];rw [e1] at hne;exact hne
  rw [e1];simp [Value.ownBlock];omega
 have hb2:w2.heap[b]? = some (.cells #[.pointer (some ⟨b,0,none⟩),v] T (0,0)):=by
  rw [hgrow.block b hlt (fun e=>hne' e.symm)]
  exact hbk
 have d0:w2.cell? ⟨b,0,none⟩=some (.pointer (some ⟨b,0,none⟩)):=by rw [Lib.cell_of_heap hb2];rfl
 have d1:w2.cell? ⟨b,1,none⟩=some v:=by rw [Lib.cell_of_heap hb2];rfl
 have f1:w2.frozen? ⟨b,1,none⟩=false:=Lib.frozen_of_heap hb2 1
 obtain ⟨ao,n',cap,rfl⟩:∃ao n' cap,v'=.slice ao n' cap:=by
  rcases hown'.2 with ⟨hv,_⟩|⟨g,cap,cur,hv,_⟩
  ·exact ⟨_,_,_,hv⟩
  exact ⟨_,_,_,hv⟩
 go_wp2_with (at_builtin;refine Oj rfl _ _ (ρ.t 37) (ρ.t 9) (ρ.t 37) rfl rfl rfl rfl hrun ?_)
 go_ret2
 refine ⟨rfl,_,⟨by simp [World.setCell,Array.getElem?_modify,hb2],.inr rfl,hown'.kept (row:=some b) ⟨rfl,rfl,rfl,by simp [World.setCell],fun k _ hk=>Below.heap_setCell _ _ _ _ (fun e=>hk (by simp [e]))⟩ (.inr hne'),hne'⟩,⟨?_,?_,?_,?_⟩,fun k hk hkb hkr=>?_,?_⟩
 ·exact hgrow.os.trans hg1.os
 ·exact hgrow.tape.trans hg1.tape
 ·exact hgrow.output.trans hg1.output
 ·have:=hgrow.size
  simp [World.setCell];omega
 ·rw [Below.heap_setCell _ _ _ _ hkb,hgrow.block k (by omega) (fun e=>hkr e.symm),hg1.block k hk (by simpa using hkb)]
 rw [hs1] at hcase;exact hcase

set_option maxHeartbeats 2000000 in
set_option maxRecDepth 100000 in
/-- Its text: some of its row is frozen; nothing else turns. -/
theorem bldString (L:Lays.n169 P ρ) (X:Builder.Extra P ρ) {T:TypeId} (b:Nat) (p v:Value) (l:List UInt8) (w:World) (h:K8 T (ρ.t 5) b p v l.length (Lib.byteCells l) w) (hcap:∀g,v≠.slice (some ⟨g,0,none⟩) 0 0):
  Calls P (ρ.f 169) #[.pointer (some ⟨b,0,none⟩)] w fun e w'=>e=.returned (.string ⟨l.toArray⟩)∧(w'.os=w.os∧w'.tape=w.tape∧w'.output=w.output∧w.heap.size≤w'.heap.size)∧∀k,v.ownBlock≠some k→w'.heap[k]? = w.heap[k]? := by
 obtain ⟨hbk,_,hown,hne⟩:=h
 have mixed:=L.mixed
 have t72:=L.t72;have a72:=L.a72;have z72:=L.z72;have v72:=L.v72;have u72:=run_underlying L.t72
 have t70:=L.t70;have a70:=L.a70;have z70:=L.z70;have v70:=L.v70;have u70:=run_underlying L.t70
 have t37:=L.t37;have a37:=L.a37;have z37:=L.z37;have v37:=L.v37;have u37:=run_underlying L.t37
 have t127:=L.t127;have a127:=L.a127;have z127:=L.z127;have v127:=L.v127;have u127:=run_underlying L.t127
 have t3:=L.t3;have a3:=L.a3;have z3:=L.z3;have v3:=L.v3;have u3:=run_underlying L.t3
 have t9:=L.t9;have a9:=L.a9;have z9:=L.z9;have v9:=L.v9;have u9:=run_underlying L.t9
 have t5:=X.t5;have a5:=X.a5;have z5:=X.z5;have v5:=X.v5;have u5:=run_underlying X.t5
 rcases hown.2 with ⟨rfl,h0⟩|⟨g,cap,cur,rfl,hbg,hg,hnc,hcm,hcs,htake⟩
 ·have hl:l=[]:=List.eq_nil_of_length_eq_zero h0
  subst hl
  have hUS:=Any.unsafeString_none L X
  have c1:w.drew.cell? ⟨b,1,none⟩=some (.slice none 0 0):=by
   have:w.drew.heap[b]? = some (.cells #[p,.slice none 0 0] T (0,0)):=hbk
   rw [Lib.cell_of_heap this];rfl
  have hSD:(Builtin.unsafeSliceData_ #[(ρ.t 37)] (ρ.t 127) #[.slice none 0 0]).run P w.drew=.ok (.pointer none) w.drew:=rfl
  go_enter L.f169,Body.n169_ntmps ρ
  go_wp2
  go_region_o
  all_goals (go_wp2;go_ret;exact ⟨rfl,⟨rfl,rfl,rfl,Nat.le_refl _⟩,fun _ _=>rfl⟩)
 have hc0:cap≠0:=by
  rintro rfl
  exact hcap g (by rw [show l.length=0 by omega])
 have c1:w.drew.cell? ⟨b,1,none⟩=some (.slice (some ⟨g,0,none⟩) l.length cap):=by
  have:w.drew.heap[b]? = some (.cells #[p,.slice (some ⟨g,0,none⟩) l.length cap] T (0,0)):=hbk
  rw [Lib.cell_of_heap this];rfl
 have hSD:(Builtin.unsafeSliceData_ #[(ρ.t 37)] (ρ.t 127) #[.slice (some ⟨g,0,none⟩) l.length cap]).run P w.drew=.ok (.pointer (some ⟨g,0,none⟩)) w.drew:=
  Lib.run_unsafeSliceData_row _ _ _ _ _ _ hc0
 by_cases hl:l=[]
 ·subst hl
  have hUS:=Any.unsafeString_none L X
  clear hc0 hcap
  simp only [List.length_nil] at c1 hSD
  go_enter L.f169,Body.n169_ntmps ρ
  go_wp2
  go_region_o
  all_goals (go_wp2;go_ret;exact ⟨rfl,⟨rfl,rfl,rfl,Nat.le_refl _⟩,fun _ _=>rfl⟩)
 have hUS:(Builtin.unsafeString_ #[(ρ.t 127),(ρ.t 3)] (ρ.t 9) #[.pointer (some ⟨g,0,none⟩),.int .i64 l.length]).run P w.drew=.ok (.string ⟨l.toArray⟩) (w.drew.freeze ⟨g,0,none⟩ l.length):=by
  refine Lib.run_unsafeString_row w.drew (ρ.t 127) (ρ.t 3) (ρ.t 9) (ρ.t 5) L.t127 X.cellsByte g cur.size (by have hg':w.drew.heap[g]? = some (.cells cur (ρ.t 5) (0,0)):=hg;simp [World.shape?,hg']) l hl (by omega) (by unfold maxLen at hcm;omega) ?_
  intro j x hx
  exact hown.cells (g:=g) rfl j (.int .u8 x.toNat) (by simp [Lib.byteCells,hx])
 have hfz:∀k,g≠k→(w.drew.freeze ⟨g,0,none⟩ l.length).heap[k]? = w.heap[k]? := fun k hk=>by
  unfold World.freeze
  split
  ·rfl
  show (w.heap.modify g _)[k]? = _
  rw [Array.getElem?_modify,if_neg hk]
 have hfs:(w.drew.freeze ⟨g,0,none⟩ l.length).heap.size=w.heap.size:=by
  unfold World.freeze
  split
  ·rfl
  show (w.heap.modify g _).size=_
  simp
 have hfo:(w.drew.freeze ⟨g,0,none⟩ l.length).os=w.os∧(w.drew.freeze ⟨g,0,none⟩ l.length).tape=w.tape∧(w.drew.freeze ⟨g,0,none⟩ l.length).output=w.output:=by
  unfold World.freeze
  split<;>exact ⟨rfl,rfl,rfl⟩
 clear hc0 hcap
 go_enter L.f169,Body.n169_ntmps ρ
 go_wp2
 go_region_o
 all_goals (go_wp2;go_ret;exact ⟨rfl,⟨hfo.1,hfo.2.1,hfo.2.2,Nat.le_of_eq hfs.symm⟩,fun k hk=>hfz k (fun e=>hk (by rw [e];rfl))⟩)
end
end Go.Proofs

namespace Go.SX.Nb
open Go Go.SX Go.Proofs Go.Shelf
variable [ErrAt]
set_option maxRecDepth 8000
/-! show's builder. -/
theorem w8:Builder.Extra Tryz.prog Tryz.ren155 where
 sizeBuilder:=by kernel_rfl
 liesBuilder:=by kernel_rfl
 t5:=Tryz.underlying5
 a5:=Tryz.isAgg5
 z5:=Tryz.sizeOf5
 v5:=Tryz.zeroValue5
 infoByte:=by kernel_rfl
 cellsByte:=by kernel_rfl
 sizeByte:=by kernel_rfl
 neB5:=by decide
theorem w9:liesAt Tryz.prog Tryz.prog.depth 160 (2 / Tryz.prog.cellsOf 160) 0 74 1=true:=by kernel_rfl
abbrev Sn (bs:Str):AObj:=.bld 160 5 bs
theorem Cg {n:Nat} {bs:Str}:ObjLow n (Sn bs):=trivial
/-- (*strings.Builder).WriteString. -/
theorem c31 (bs s:Str) (hl:bs.length+s.length≤140737488355328) (o:Nat) (Hp:List AObj) (ho:Hp[o]? = some (Sn bs)):
  ACall Tryz.prog 31 [.ptr o 0,Aa s] Hp (fun r H'=>r=.tup [A3 s.length,.v .nilIface]∧H'=Hp.set o (Sn (bs++s))):=by
 refine ACall.bldWrite ho (fun b p v w h=>?_)
 have hw:=bldWrite Tryz.lays166 w8 (T:=160) w9 (by decide) b p v bs.length (Lib.byteCells bs) ⟨s.toArray⟩ w h (by rw [Dc];exact hl)
 rw [Dc,Lib.strCells_eq,←Lib.byteCells_append] at hw
 exact hw
/-- (*strings.Builder).Len. -/
theorem c32 (bs:Str) (o:Nat) (Hp:List AObj) (ho:Hp[o]? = some (Sn bs)):AFun Tryz.prog 32 [.ptr o 0] Hp (A3 bs.length):=
 AFun.bldLen ho (fun b p v w h=>bldLen Tryz.lays170 (T:=160) (e:=5) b p v _ _ w h)
/-- (*strings.Builder).String. -/
theorem c33 (bs:Str) (o:Nat) (Hp:List AObj) (ho:Hp[o]? = some (Sn bs)):ACall Tryz.prog 33 [.ptr o 0] Hp (fun r H'=>r=Aa bs∧H'=Hp.set o (.cells 160 [.any,.any])):=
 ACall.bldString ho (fun b p v w h hc=>bldString (ρ:=Tryz.ren155) { Tryz.lays155 with } w8 (T:=160) b p v bs w h hc)
end Go.SX.Nb
namespace Go.SX.Nb
open Go Go.SX Go.Proofs
variable [ErrAt]
set_option maxRecDepth 4000
abbrev x9:AV:=.v (.tuple #[])
abbrev Fu:Nat:=1099511627776
/-- What node writes. -/
def r9 (e:Expr):Prop:=∀(o:Nat) (bs:Str) (Hp:List AObj),Hp[o]? = some (Sn bs)→bs.length+(A8 e).length≤Fu→ACall Tryz.prog 137 [.ptr o 0,A5 e] Hp (fun r H'=>r=x9∧H'=Hp.set o (Sn (bs++A8 e)))
theorem Ut (e:Expr):A8 e=Lp e.op e.text e.val e.kids (e.kids.map A8):=by
 cases e with
 | mk o t v k=>rw [A8,Jn];rfl
theorem Yz {k:List Expr} {i:Nat} (h:i<k.length):(k.map A8).getD i []=A8 (k.getD i Ad):=by
 rw [List.getD_eq_getElem?_getD,List.getD_eq_getElem?_getD,List.getElem?_map,List.getElem?_eq_getElem h]
 rfl
theorem Uu (l:List Str) (s:Str):Dr (l++[s])=Dr l++(44::32::s):=by
 induction l with
 | nil=>simp [Dr]
 | cons a r ih=>simp [Dr,ih]
theorem Za {k:List Expr} {x:Nat} (h:x<k.length):(Dr ((k.take (x+1)).map A8)).drop 2=(Dr ((k.take x).map A8)).drop 2++(if 0<x then [44,32] else [])++A8 k[x]:=by
 rw [List.take_succ_eq_append_getElem h,List.map_append,List.map_singleton,Uu]
 cases x with
 | zero=>simp [Dr]
 | succ x =>
  have:2≤(Dr ((k.take (x+1)).map A8)).length:=by
   rw [List.take_succ_eq_append_getElem (by omega),List.map_append,List.map_singleton,Uu]
   simp
   omega
  rw [List.drop_append_of_le_length this,if_pos (by omega)]
  simp
theorem ra {k:List Expr} (x:Nat):(Dr ((k.take x).map A8)).length≤(Dr (k.map A8)).length:=by
 have:k.map A8=(k.take x).map A8++(k.drop x).map A8:=by rw [←List.map_append,List.take_append_drop]
 rw [this]
 have:∀a b:List Str,(Dr a).length≤(Dr (a++b)).length:=by
  intro a b
  induction a with
  | nil=>simp [Dr]
  | cons c r ih=>simp [Dr];exact ih
 exact this _ _
theorem Zb {H:List AObj} {o:Nat} {a b:AObj}:(H.set o a).set o b=H.set o b:=List.set_set _
theorem c171 (e:Expr) (he:r9 e) (hlev:M6 e=(levE e:Int)) (least:Nat) (l0:Int) (hl0:l0=(least:Int)) (o:Nat) (bs:Str) (Hp:List AObj) (ho:Hp[o]? = some (Sn bs)) (hb:bs.length+(Hh least e (A8 e)).length≤Fu):ACall Tryz.prog 171 [.ptr o 0,A5 e,A3 l0] Hp (fun r H'=>r=x9∧H'=Hp.set o (Sn (bs++Hh least e (A8 e)))):=by
 subst hl0
 refine ACall.body [] [0,1,2] Tryz.func171 Tryz.ntmps171 (fun d=>?_)
 refine Z0 ?_;refine R.fin [0,2,4] ?_;refine Z8 ?_;refine R.call Tryz.call169 (AC4 e _) ?_;refine Z1 ?_;refine R.fin [0,4,9] ?_
 refine W.cond (fun ht9=>?_) (fun ht9=>?_)
 ·have hz:least≤levE e:=by
   have h:=ht9
   rw [hlev] at h
   simpa using h
  rw [show Hh least e (A8 e)=A8 e from if_pos hz] at hb ⊢
  refine Z3 ?_;refine R.callUp Tryz.call137 ho (by simp) Cg (he o bs _ (A4 ho) (by omega)) ?_;refine R.fin [] ?_;refine jc ?_;exact K.fin .nores ⟨rfl,by simp⟩
 have hz:¬least≤levE e:=by
  have h:=ht9
  rw [hlev] at h
  simpa using h
 rw [show Hh least e (A8 e)=40::(A8 e++[41]) from if_neg hz] at hb ⊢
 simp only [List.length_cons,List.length_append,List.length_nil,Fu] at hb
 refine Vr ?_
 refine R.callUp Tryz.call31 ho (by simp) Cg (c31 bs [40] (by simp only [Fu,List.length_append,List.length_cons,List.length_nil] at *;omega) o _ (A4 ho)) ?_
 refine R.fin [0,4] ?_;refine Z3 ?_
 refine R.callUp Tryz.call137 (getset ho) (by simp) Cg (he o (bs++[40]) _ (A4 (getset ho)) (by simp only [Fu,List.length_append,List.length_cons,List.length_nil] at *;omega)) ?_
 refine R.fin [0] ?_;refine Z48 ?_
 refine R.callUp Tryz.call31 (getset (getset ho)) (by simp) Cg (c31 (bs++[40]++A8 e) [41] (by simp only [Fu,List.length_append,List.length_cons,List.length_nil] at *;omega) o _ (A4 (getset (getset ho)))) ?_
 refine R.fin [] ?_;exact K.finN .nores ⟨rfl,by simp⟩

theorem AE1:∀(n:Nat) (e:Expr),okE n e→B0 At e=true→B0 D6 e=true→r9 e:=by
 intro n
 induction n with
 | zero=>exact fun e h=>h.elim
 | succ n ih =>
 intro e hok hnd hrg o bs Hp ho hb
 have hnd0:=hnd
 have hrg0:=hrg
 rw [Co,Bool.and_eq_true] at hnd0 hrg0
 have hev:∀y∈e.kids,r9 y:=fun y hy=>ih y (hok.2.2 y hy) ((Bv _ _).1 hnd0.2 y hy) ((Bv _ _).1 hrg0.2 y hy)
 have hlv:∀y∈e.kids,M6 y=(levE y:Int):=fun y hy=>Q3 (by have:=(Bv _ _).1 hnd0.2 y hy;rw [Co,Bool.and_eq_true] at this;exact this.1)
 obtain ⟨k5,k34,k6,kall⟩:=Yy hnd0.1
 have hi64:Xq e.val.n:=by
  have:=hrg0.1
  simp only [D6,Bool.and_eq_true,decide_eq_true_eq] at this
  exact this
 have hlv0:=Q3 hnd0.1
 have pe:=Ut e
 have hol:=(List.getElem?_eq_some_iff.1 ho).1
 unfold Lp at pe
 refine ACall.body [] [0,1] Tryz.func137 Tryz.ntmps137 (fun d=>?_)
 refine Z0 ?_;refine Hu ?_;refine Z0 ?_;refine R.call Tryz.call169 (AC4 e _) ?_;refine sx ?_;refine Z3 ?_;refine R.fin [0,3,4,11] ?_;refine Z69 ?_;refine R.fin [0,3,4,11,12] ?_
 refine W.cond (fun ht12=>?_) (fun ht12=>?_)
 ·rw [if_pos ht12] at pe
  refine W.drawQ0 [0,1,3,0,8,24,63] 6 Ab (by kernel_rfl) ?_;refine aw ?_;refine D.call Tryz.call170 (ABm e.val hi64 _) ?_;refine D.tail ?_
  refine R.callUp Tryz.call31 ho (by simp) Cg (c31 bs (Bk e.val) (by rw [pe] at hb;simp only [Fu] at hb;omega) o _ (A4 ho)) ?_
  exact j7
 rw [if_neg (by rw [ht12];simp)] at pe
 refine Z3 ?_;refine R.fin [0,3,4,11,21] ?_
 refine W.cond (fun ht21=>?_) (fun ht21=>?_)
 ·rw [if_pos ht21] at pe
  refine W.drawQ0 [0,1,3,0,8,31] 5 Ab (by kernel_rfl) ?_;refine aw ?_;refine D.tail ?_
  refine R.callUp Tryz.call31 ho (by simp) Cg (c31 bs e.text (by rw [pe] at hb;simp only [Fu] at hb;omega) o _ (A4 ho)) ?_
  exact j7
 rw [if_neg (by rw [ht21];simp)] at pe
 refine Z3 ?_;refine R.fin [0,3,4,11,29] ?_
 refine W.cond (fun ht29=>?_) (fun ht29=>?_)
 ·rw [if_pos ht29] at pe
  have hkl:=k34 (.inl (by simpa using ht29))
  rw [Yz (by omega)] at pe
  rw [pe] at hb
  simp only [List.length_cons,Fu] at hb
  refine Z19 ?_
  refine R.callUp Tryz.call31 ho (by simp) Cg (c31 bs [45] (by simp only [Fu,List.length_append,List.length_cons,List.length_nil] at *;omega) o _ (A4 ho)) ?_
  refine Hu ?_;refine Z48 ?_
  refine R.go (h:=Q.indexAddr (0) (A5 (e.kids.getD 0 Ad)) (fun _=>(El (by omega)).1)) (hr:=?_)
  refine R.go ?_
  refine R.callUp Tryz.call171 (getset ho) (by simp) Cg (c171 (e.kids.getD 0 Ad) (hev _ (El (by omega)).2.1) (hlv _ (El (by omega)).2.1) (6) _ (rfl) o (bs++[45]) _ (A4 (getset ho)) (by simp only [Fu,List.length_append,List.length_cons,List.length_nil] at *;omega)) ?_
  exact j7
 rw [if_neg (by rw [ht29];simp)] at pe
 refine Z3 ?_;refine R.fin [0,3,4,11,41] ?_
 refine W.cond (fun ht41=>?_) (fun ht41=>?_)
 ·rw [if_pos ht41] at pe
  have hkl:=k34 (.inr (by simpa using ht41))
  rw [Yz (by omega)] at pe
  rw [pe] at hb
  simp only [List.length_cons,List.length_append,O1,List.length_nil,Fu] at hb
  refine Z19 ?_
  refine R.callUp Tryz.call31 ho (by simp) Cg (c31 bs [110,111,116,32] (by simp only [Fu,List.length_append,List.length_cons,List.length_nil] at *;omega) o _ (A4 ho)) ?_
  refine Hu ?_;refine Z48 ?_
  refine R.go (h:=Q.indexAddr (0) (A5 (e.kids.getD 0 Ad)) (fun _=>(El (by omega)).1)) (hr:=?_)
  refine R.go ?_
  refine R.callUp Tryz.call171 (getset ho) (by simp) Cg (c171 (e.kids.getD 0 Ad) (hev _ (El (by omega)).2.1) (hlv _ (El (by omega)).2.1) (2) _ (rfl) o (bs++[110,111,116,32]) _ (A4 (getset ho)) (by simp only [Fu,List.length_append,List.length_cons,List.length_nil] at *;omega)) ?_
  exact j7
 rw [if_neg (by rw [ht41];simp)] at pe
 refine Z3 ?_;refine R.fin [0,3,4,11,53] ?_
 refine W.cond (fun ht53=>?_) (fun ht53=>?_)
 ·rw [if_pos ht53] at pe
  have h5:e.op=5:=by simpa using ht53
  have hkl:=k5 h5
  have hlv5:levE e=(Ae e.text).toNat:=by simp [levE,h5]
  have hl5:=Hz e.text
  rw [Yz (by omega),Yz (by omega)] at pe
  rw [pe] at hb
  simp only [List.length_cons,List.length_append,Fu] at hb
  rw [hlv0,hlv5]
  refine Z3 ?_;refine R.fin [0,3,4,5] ?_;refine Z31 ?_;refine R.fin [0,3,4,5,57] ?_
  refine W.cond (fun ht57=>?_) (fun ht57=>?_)
  ·have h3:(Ae e.text).toNat=3:=by have:=ht57;simp at this;omega
   have hf1:(((Ae e.text).toNat:Int)+1)=((Bx (Ae e.text).toNat:Nat):Int):=by rw [h3];rfl
   refine Z48 ?_;refine R.fin [0,3,4,5] ?_;refine K.thN ?_;refine Z19 ?_
   refine R.go (h:=Q.indexAddr (0) (A5 (e.kids.getD 0 Ad)) (fun _=>(El (by omega)).1)) (hr:=?_)
   refine Z1 ?_
   refine R.callUp Tryz.call171 ho (by simp) Cg (c171 (e.kids.getD 0 Ad) (hev _ (El (by omega)).2.1) (hlv _ (El (by omega)).2.1) (Bx (Ae e.text).toNat) _ (by first|exact hf1|rw [hf2]) o (bs) _ (A4 ho) (by simp only [Fu,List.length_append,List.length_cons,List.length_nil] at *;omega)) ?_
   refine AAo ?_;refine aw ?_
   refine D.go (h:=Q.sadd (hl:=fun _=>by simp only [List.length_cons,List.length_nil];omega)) (hr:=?_)
   refine D.go (h:=Q.sadd (hl:=fun _=>by simp only [List.length_cons,List.length_nil,List.length_append];omega)) (hr:=?_)
   refine D.tail ?_
   refine R.callUp Tryz.call31 (getset ho) (by simp) Cg (c31 (bs++Hh (Bx (Ae e.text).toNat) (e.kids.getD 0 Ad) (A8 (e.kids.getD 0 Ad))) (32::(e.text++[32])) (by simp only [Fu,List.length_append,List.length_cons,List.length_nil] at *;omega) o _ (A4 (getset ho))) ?_
   refine Qp ?_;refine Z48 ?_
   refine R.go (h:=Q.indexAddr (1) (A5 (e.kids.getD 1 Ad)) (fun _=>(El (by omega)).1)) (hr:=?_)
   refine Z6 ?_
   refine R.callUp Tryz.call171 (getset (getset ho)) (by simp) Cg (c171 (e.kids.getD 1 Ad) (hev _ (El (by omega)).2.1) (hlv _ (El (by omega)).2.1) ((Ae e.text).toNat+1) _ (by first|rfl|(push_cast;rfl)) o (bs++Hh (Bx (Ae e.text).toNat) (e.kids.getD 0 Ad) (A8 (e.kids.getD 0 Ad))++32::(e.text++[32])) _ (A4 (getset (getset ho))) (by simp only [Fu,List.length_append,List.length_cons,List.length_nil] at *;omega)) ?_
   exact j7
  have h3:(Ae e.text).toNat≠3:=by have:=ht57;simp at this;omega
  have hf2:Bx (Ae e.text).toNat=(Ae e.text).toNat:=by unfold Bx;rw [if_neg h3]
  refine Vr ?_
  refine R.go (h:=Q.indexAddr (0) (A5 (e.kids.getD 0 Ad)) (fun _=>(El (by omega)).1)) (hr:=?_)
  refine Z1 ?_
  refine R.callUp Tryz.call171 ho (by simp) Cg (c171 (e.kids.getD 0 Ad) (hev _ (El (by omega)).2.1) (hlv _ (El (by omega)).2.1) (Bx (Ae e.text).toNat) _ (by first|exact hf1|rw [hf2]) o (bs) _ (A4 ho) (by simp only [Fu,List.length_append,List.length_cons,List.length_nil] at *;omega)) ?_
  refine AAo ?_;refine aw ?_
  refine D.go (h:=Q.sadd (hl:=fun _=>by simp only [List.length_cons,List.length_nil];omega)) (hr:=?_)
  refine D.go (h:=Q.sadd (hl:=fun _=>by simp only [List.length_cons,List.length_nil,List.length_append];omega)) (hr:=?_)
  refine D.tail ?_
  refine R.callUp Tryz.call31 (getset ho) (by simp) Cg (c31 (bs++Hh (Bx (Ae e.text).toNat) (e.kids.getD 0 Ad) (A8 (e.kids.getD 0 Ad))) (32::(e.text++[32])) (by simp only [Fu,List.length_append,List.length_cons,List.length_nil] at *;omega) o _ (A4 (getset ho))) ?_
  refine Qp ?_;refine Z48 ?_
  refine R.go (h:=Q.indexAddr (1) (A5 (e.kids.getD 1 Ad)) (fun _=>(El (by omega)).1)) (hr:=?_)
  refine Z6 ?_
  refine R.callUp Tryz.call171 (getset (getset ho)) (by simp) Cg (c171 (e.kids.getD 1 Ad) (hev _ (El (by omega)).2.1) (hlv _ (El (by omega)).2.1) ((Ae e.text).toNat+1) _ (by first|rfl|(push_cast;rfl)) o (bs++Hh (Bx (Ae e.text).toNat) (e.kids.getD 0 Ad) (A8 (e.kids.getD 0 Ad))++32::(e.text++[32])) _ (A4 (getset (getset ho))) (by simp only [Fu,List.length_append,List.length_cons,List.length_nil] at *;omega)) ?_
  exact j7
 rw [if_neg (by rw [ht53];simp)] at pe
 refine Z3 ?_;refine R.fin [0,3,83] ?_
 refine W.cond (fun ht83=>?_) (fun ht83=>?_)
 ·have hsl:∀x,((Dr ((e.kids.take x).map A8)).drop 2).length≤((Dr (e.kids.map A8)).drop 2).length:=fun x=>by have:=ra (k:=e.kids) x;rw [List.length_drop,List.length_drop];omega
  have hkl6:=hok.2.1
  rw [pe] at hb
  simp only [List.length_cons,List.length_append,List.length_nil,Fu] at hb
  refine W.drawQ [0,1,3,0,8,24,63] 6 Ab (by kernel_rfl) ?_;refine aw ?_
  refine D.go (h:=Q.sadd (hl:=fun _=>by simp only [List.length_cons,List.length_nil];omega)) (hr:=?_)
  refine D.tail ?_
  refine R.callUp Tryz.call31 ho (by simp) Cg (c31 bs (e.text++[40]) (by simp only [Fu,List.length_append,List.length_cons,List.length_nil] at *;omega) o _ (A4 ho)) ?_
  refine Hu ?_;refine Z55 ?_;refine R.fin [0,93,94,95] ?_
  refine AW.loopC (α:=Nat) (fun x=>⟨114,A6 0 (.ptr o 0) (A6 93 (.slice false 6 (e.kids.map A5)) (A6 94 (A3 (e.kids.length:Nat)) (A6 95 (A3 (x:Nat)) (fun _=>.any)))),Hp.set o (Sn (bs++(e.text++[40])++(Dr ((e.kids.take x).map A8)).drop 2)),[],[],none⟩) (fun x=>x≤e.kids.length) (fun x=>e.kids.length-x) (0) (Nat.zero_le _) (StLe.of_eq (by simp [Dr])) rfl (fun x hx=>?_)
  refine Z0 ?_;refine R.fin [0,93,94,95,96] ?_
  refine W.condX (fun ht96=>?_) (fun ht96=>?_)
  ·have hlt:x<e.kids.length:=by simpa using ht96
   have hst:=Za hlt
   have hsl1:=hsl (x+1)
   have hslx:=hsl x
   refine ax ?_
   refine R.go (h:=Q.indexAddr (x) (A5 e.kids[x]) (fun _=>Am hlt)) (hr:=?_)
   refine R.go ?_;refine ja ?_;refine R.fin [0,6,7,93,94,95] ?_;refine Z31 ?_;refine R.fin [0,7,93,94,95,101] ?_
   refine W.cond (fun ht101=>?_) (fun ht101=>?_)
   ·have h0x:0<x:=by simpa using ht101
    rw [if_pos h0x] at hst
    have hstl:=congrArg List.length hst
    simp only [List.length_append,List.length_cons,List.length_nil] at hstl
    refine Z48 ?_
    refine R.callUp Tryz.call31 (getset ho) (by simp) Cg (c31 (bs++(e.text++[40])++(Dr ((e.kids.take x).map A8)).drop 2) [44,32] (by simp only [Fu,List.length_append,List.length_cons,List.length_nil] at *;omega) o _ (A4 (getset ho))) ?_
    refine R.fin [0,7,93,94,95] ?_;refine K.thN ?_;refine Z30 ?_
    first|refine R.callUp Tryz.call137 (getset ho) (by simp) Cg (hev _ (List.getElem_mem hlt) o (bs++(e.text++[40])++(Dr ((e.kids.take x).map A8)).drop 2) _ (A4 (getset ho)) (by simp only [Fu,List.length_append,List.length_cons,List.length_nil] at *;omega)) ?_|refine R.callUp Tryz.call137 (getset (getset ho)) (by simp) Cg (hev _ (List.getElem_mem hlt) o (bs++(e.text++[40])++(Dr ((e.kids.take x).map A8)).drop 2++[44,32]) _ (A4 (getset (getset ho))) (by simp only [Fu,List.length_append,List.length_cons,List.length_nil] at *;omega)) ?_
    refine R.fin [0,93,94,95] ?_;refine Z88 ?_;refine R.fin [0,93,94,95] ?_;refine K.lpN (x+1) hlt (by omega) ?_
    simp only [hst,Zb,List.append_assoc,List.append_nil]
    exact StCut.take (own:=[]) (fun _=>.refl _) (by repeat (first|exact C5|refine C4 (by first|exact Dy|exact gq|(simp [or_imp,forall_and,oid]<;>omega)) ?_)) (by simp) (by simp)
   have h0x:¬0<x:=by simpa using ht101
   rw [if_neg h0x] at hst
   have hstl:=congrArg List.length hst
   simp only [List.length_append,List.length_cons,List.length_nil] at hstl
   refine Z5 ?_;refine Z30 ?_
   first|refine R.callUp Tryz.call137 (getset ho) (by simp) Cg (hev _ (List.getElem_mem hlt) o (bs++(e.text++[40])++(Dr ((e.kids.take x).map A8)).drop 2) _ (A4 (getset ho)) (by simp only [Fu,List.length_append,List.length_cons,List.length_nil] at *;omega)) ?_|refine R.callUp Tryz.call137 (getset (getset ho)) (by simp) Cg (hev _ (List.getElem_mem hlt) o (bs++(e.text++[40])++(Dr ((e.kids.take x).map A8)).drop 2++[44,32]) _ (A4 (getset (getset ho))) (by simp only [Fu,List.length_append,List.length_cons,List.length_nil] at *;omega)) ?_
   refine R.fin [0,93,94,95] ?_;refine Z88 ?_;refine R.fin [0,93,94,95] ?_;refine K.lpN (x+1) hlt (by omega) ?_
   simp only [hst,Zb,List.append_assoc,List.append_nil]
   exact StCut.take (own:=[]) (fun _=>.refl _) (by repeat (first|exact C5|refine C4 (by first|exact Dy|exact gq|(simp [or_imp,forall_and,oid]<;>omega)) ?_)) (by simp) (by simp)
  have hxe:e.kids.take x=e.kids:=List.take_of_length_le (by simp at ht96;omega)
  have hslx:=hsl x
  refine Z23 ?_;refine Z48 ?_
  refine R.callUp Tryz.call31 (getset ho) (by simp) Cg (c31 (bs++(e.text++[40])++(Dr ((e.kids.take x).map A8)).drop 2) [41] (by simp only [Fu,List.length_append,List.length_cons,List.length_nil] at *;omega) o _ (A4 (getset ho))) ?_
  refine Z89 ?_;exact K.finN .nores ⟨rfl,by rw [pe,hxe]<;>simp⟩
 exfalso
 have h6:=kall
 simp at ht12 ht21 ht29 ht41 ht53 ht83
 omega

set_option maxRecDepth 8000
/-! How long a print is. -/
theorem dd {v:Val} (hp:Bd v=true) (hi:Xq v.n):(Bk v).length≤402:=by
 unfold Bk
 rw [hp]
 simp only [Bool.not_true,Bool.false_eq_true,if_false]
 split
 ·have:=Lib.itoa_length_le v.n hi.1 hi.2
  omega
 split
 ·rename_i h1 h2
  rw [Gn]
  have h3:=Ri v.s
  have h4:v.s.length≤200:=by
   have k2:v.kind=2:=by simpa using h2
   simp [Bd,k2] at hp
   omega
  simp
  omega
 split
 ·simp
 split<;>simp
theorem Q4 (k:Nat) (x:Expr) (s:Str):(Hh k x s).length≤s.length+2:=by
 unfold Hh
 split<;>simp
theorem Zc {t:Str} (h:0≤Ae t):t.length≤3:=by
 rcases Fq t with hm|⟨hm,_⟩
 ·have h3:(levels.flatten.all fun s=>decide (s.length≤3))=true:=by kernel_rfl
  exact of_decide_eq_true (List.all_eq_true.1 h3 t hm)
 omega
theorem So {t:Str} {n:Nat} (h:B5 t=(n:Int)):t.length≤6:=by
 rcases M3 h with ⟨e,_⟩|⟨e,_⟩|⟨e,_⟩|⟨e,_⟩|⟨e,_⟩|⟨e,_⟩|⟨e,_⟩|⟨e,_⟩<;>rw [e]<;>decide
theorem rb {k:List Expr} (h:∀y∈k,(A8 y).length+10≤440*sizeE y):(Dr (k.map A8)).length≤440*B6 k:=by
 induction k with
 | nil=>simp [Dr]
 | cons y r ih =>
  have h1:=h y List.mem_cons_self
  have h2:=ih (fun z hz=>h z (List.mem_cons_of_mem _ hz))
  simp only [List.map_cons,Dr,B6,List.length_cons,List.length_append]
  omega
theorem Ok:∀(n:Nat) (e:Expr),sizeE e≤n→B0 At e=true→B0 D6 e=true→(A8 e).length+10≤440*sizeE e
 | 0,e,h,_,_=>by rw [Dw] at h;omega
 | n+1,e,h,hn,hr=>by
  rw [Co,Bool.and_eq_true] at hn hr
  have hk:∀y∈e.kids,(A8 y).length+10≤440*sizeE y:=fun y hy=>by
   obtain ⟨i,hi⟩:=List.getElem?_of_mem hy
   obtain ⟨hlt,rfl⟩:=List.getElem?_eq_some_iff.1 hi
   exact Ok n _ (by have:=R2 e hlt;omega) ((Bv _ _).1 hn.2 _ hy) ((Bv _ _).1 hr.2 _ hy)
  have hi:Xq e.val.n:=by
   have:=hr.1
   simp only [D6,Bool.and_eq_true,decide_eq_true_eq] at this
   exact this
  rw [Dw]
  cases Fi hn.1 with
  | val v hp h0 =>
   rw [pw]
   have:=dd hp (v:=v) hi
   simp only [Ff,Expr.kids,B6]
   omega
  | name t ht =>
   rw [fq]
   have:t.length≤16:=by
    cases t with
    | nil=>simp
    | cons c r =>
     simp only [E0,Bool.and_eq_true,decide_eq_true_eq] at ht
     exact ht.1.1.1
   simp only [Aq,Expr.kids,B6]
   omega
  | neg a =>
   rw [px]
   have h1:=Q4 6 a (A8 a)
   have h2:=hk a (by simp [Bq,Expr.kids])
   simp only [Bq,Expr.kids,B6,List.length_cons]
   omega
  | no a =>
   rw [wz]
   have h1:=Q4 2 a (A8 a)
   have h2:=hk a (by simp [Bq,Expr.kids])
   simp only [Bq,Expr.kids,B6,List.length_cons,List.length_append,O1,List.length_nil]
   omega
  | bin t a b ht =>
   rw [py]
   have h1:=Q4 (Bx (Ae t).toNat) a (A8 a)
   have h2:=Q4 ((Ae t).toNat+1) b (A8 b)
   have h3:=hk a (by simp [C6,Expr.kids])
   have h4:=hk b (by simp [C6,Expr.kids])
   have h5:=Zc ht
   simp only [C6,Expr.kids,B6,List.length_cons,List.length_append]
   omega
  | call t k ha =>
   rw [fu]
   have h1:=So ha
   have h2:=rb (k:=k) hk
   rw [←Jn] at h2
   simp only [Expr.kids,List.length_cons,List.length_append,List.length_drop,List.length_nil]
   omega
theorem Zd {e:Expr} (hr:Ax e=true) (hg:B0 D6 e=true):(A8 e).length≤132000:=by
 have h1:=Ev hr
 have h2:sizeE e≤300:=by
  unfold Ax at hr
  simp only [Bool.and_eq_true,decide_eq_true_eq] at hr
  exact hr.1.2
 have:=Ok _ e (Nat.le_refl _) h1 hg
 omega
set_option maxRecDepth 4000
/-- A number's two za. -/
abbrev rc (a:Int):List AV:=[Ap (decide (a<0)),jl ((Sd a).tmod 4294967296),jl (IntKind.u64.wrap ((Sd a).tdiv 4294967296)),jl 0,jl 0,jl 0]
theorem rd {a:Int} (h:Xq a):Sd a=(a.natAbs:Int):=by
 obtain ⟨h1,h2⟩:=h
 unfold Sd
 simp only [IntKind.wrap_u64]
 split
 ·rename_i h3
  simp only [decide_eq_true_eq] at h3
  omega
 rename_i h3
 simp only [decide_eq_true_eq] at h3
 omega
theorem za {u:Int} (h:0≤u) (h2:u<18446744073709551616):IntKind.u64.wrap (IntKind.u64.wrap (IntKind.u64.wrap (u.tdiv 4294967296)*4294967296)+u.tmod 4294967296)=u:=by
 simp only [IntKind.wrap_u64]
 rw [Int.tdiv_eq_ediv_of_nonneg h,Int.tmod_eq_emod_of_nonneg h]
 omega
/-- How far the digits have come. -/
def DG (n:Nat) (x:Nat×Str):Prop:=(x.1=n∧x.2=[])∨(x.2≠[]∧(if x.1=0 then [] else Lib.decDigits x.1)++x.2=Lib.decDigits n)
theorem DG.step {n:Nat} {x:Nat×Str} (h:DG n x) (hc:0<x.1∨x.2=[]):DG n (x.1 / 10,UInt8.ofNat (48+x.1 % 10)::x.2):=by
 obtain ⟨u,s⟩:=x
 refine .inr ⟨by simp,?_⟩
 simp only at *
 have key:(if u / 10=0 then [] else Lib.decDigits (u / 10))++[UInt8.ofNat (48+u % 10)]=Lib.decDigits u:=by
  rw [Lib.decDigits.eq_1 u]
  by_cases h10:u<10
  ·rw [dif_pos h10,if_pos (by omega),Nat.mod_eq_of_lt h10];rfl
  rw [dif_neg h10,if_neg (by omega)]
 rw [show UInt8.ofNat (48+u % 10)::s=[UInt8.ofNat (48+u % 10)]++s from rfl,←List.append_assoc,key]
 rcases h with ⟨h1,h2⟩|⟨h1,h2⟩
 ·simp only at h1 h2
  rw [h1,h2,List.append_nil]
 simp only at h1 h2
 rw [←h2,if_neg (by rcases hc with hc|hc;omega;exact absurd hc h1)]
theorem DG.done {n:Nat} {x:Nat×Str} (h:DG n x) (h1:¬0<x.1) (h2:x.2≠[]):x.2=Lib.decDigits n:=by
 rcases h with ⟨_,h⟩|⟨_,h⟩
 ·exact absurd h h2
 rw [if_pos (by omega)] at h
 simpa using h
theorem DG.len {n:Nat} {x:Nat×Str} (h:DG n x) (hn:n≤9223372036854775808):x.2.length≤21:=by
 have h2:(Lib.decDigits n).length≤21:=by
  have:=Lib.itoa_length_le (-(n:Int)) (by omega) (by omega)
  unfold Lib.itoa at this
  split at this
  ·have e:(-(n:Int)).natAbs=n:=by omega
   rw [e] at this
   simp at this
   omega
  have:n=0:=by omega
  rw [this]
  rw [Lib.decDigits_one (by omega)]
  simp
 rcases h with ⟨_,h⟩|⟨_,h⟩
 ·rw [h];simp
 have:=congrArg List.length h
 rw [List.length_append] at this
 omega
theorem DG.le {n:Nat} {x:Nat×Str} (h:x.1≤n):x.1 / 10≤n:=by omega
theorem AE2 (u:Nat):IntKind.u8.wrap (48+IntKind.u8.wrap ((u:Int).tmod 10))=((UInt8.ofNat (48+u % 10)).toNat:Int):=by
 rw [Int.tmod_eq_emod_of_nonneg (by omega)]
 simp [IntKind.wrap,IntKind.bits,IntKind.signed,UInt8.toNat_ofNat']
theorem AC5 {u n:Nat} (h:u≤n) (hn:n≤9223372036854775808):IntKind.u64.wrap ((u:Int).tdiv 10)=((u / 10:Nat):Int):=by
 rw [Int.tdiv_eq_ediv_of_nonneg (by omega),IntKind.wrap_u64]
 omega
theorem Ze (a:Int):Lib.itoa a=if decide (a<0) then 45::Lib.decDigits a.natAbs else Lib.decDigits a.natAbs:=by
 unfold Lib.itoa
 by_cases h:a<0
 ·simp [h]
 have:a.toNat=a.natAbs:=by omega
 simp [h,this]
theorem de {v:Val} (hp:Bd v=true) (h0:(v.kind==0)=false) (h1:(v.kind==1)=false) (h3:(v.kind==3)=false):v=⟨2,0,v.s⟩∧v.s.length≤200:=by
 obtain ⟨k,n,s⟩:=v
 simp only [Bd] at *
 rw [h0,h1] at hp
 simp only [Bool.false_eq_true,if_false] at hp
 split at hp
 ·rename_i h2
  simp only [Bool.and_eq_true,beq_iff_eq,decide_eq_true_eq] at hp h2
  refine ⟨?_,by omega⟩
  rw [h2,hp.1]
 rw [h3] at hp
 simp at hp
theorem dg (s:Str) (h:s.length≤200):Bk ⟨2,0,s⟩=[39]++Bn s++[39]:=by
 have:Bd ⟨2,0,s⟩=true:=by simp [Bd];omega
 unfold Bk
 rw [this,←Gn]
 rfl
theorem AC6 {k:Expr}:((k.op==4) || (k.op==5)) = !(decide (6≤levE k)):=by
 have h5:=Hz k.text
 unfold levE
 by_cases h4:(k.op==4)=true
 ·simp [h4]
 by_cases h3:(k.op==3)=true
 ·have:k.op=3:=by simpa using h3
  simp [this]
 by_cases h6:(k.op==5)=true
 ·have:k.op=5:=by simpa using h6
  simp [this]
  omega
 simp [h3,h4,h6]
theorem zb {t:Str} (h:0≤Ae t):((t==[111,114]) || (t==[97,110,100])) = !(decide (2≤(Ae t).toNat)):=by
 rcases Fq t with hm|⟨hm,_⟩
 ·have h3:(levels.flatten.all fun t=>((t==[111,114]) || (t==[97,110,100])) == !(decide (2≤(Ae t).toNat)))=true:=by kernel_rfl
  simpa using List.all_eq_true.1 h3 t hm
 omega
theorem AC7 {k:Expr} (hn:At k=true):((k.op==5)&&((k.text==[111,114]) || (k.text==[97,110,100]))) = !(decide (2≤levE k)):=by
 unfold levE
 by_cases h4:(k.op==4)=true
 ·have:k.op=4:=by simpa using h4
  simp [this]
 by_cases h3:(k.op==3)=true
 ·have:k.op=3:=by simpa using h3
  simp [this]
 by_cases h6:(k.op==5)=true
 ·have h5:k.op=5:=by simpa using h6
  have hb:0≤Ae k.text:=by
   rw [Et] at hn
   unfold Dx at hn
   simp [h5] at hn
   exact hn.2.1
  rw [h6,zb hb]
  simp [h5]
 simp [h3,h4,h6]
/-- What the chapter's print of a tree says. -/
theorem Sp {k:Nat} {x:Expr} {s:Str} (h:k≤levE x):Hh k x s=s:=if_pos h
theorem Sq {k:Nat} {x:Expr} {s:Str} (h:¬k≤levE x):Hh k x s=40::(s++[41]):=if_neg h
abbrev xo (own:Bool) (t:Str) (ks:List Expr):AObj:=.cells 69 [A3 6,Aa t,A3 0,A3 0,Aa [],.slice own 6 (ks.map A5)]
theorem zc {n:Nat} {own:Bool} {t:Str} {ks:List Expr}:ObjLow n (xo own t ks):=by
 show ∀z∈[A3 6,Aa t,A3 0,A3 0,Aa [],AV.slice own 6 (ks.map A5)],Low n z
 intro z hz
 simp only [List.mem_cons,List.not_mem_nil,or_false] at hz
 rcases hz with rfl|rfl|rfl|rfl|rfl|rfl
 all_goals first|exact Dy|simp
theorem wc:D4 (.agg #[.int .i64 0,.string ⟨#[]⟩,.int .i64 0,.int .i64 0,.string ⟨#[]⟩,.slice none 0 0])=.agg [A3 0,Aa [],A3 0,A3 0,Aa [],.nil]:=rfl
attribute [go_sem] wc
theorem gA {Hp:List AObj} {o ox:Nat} {z A B:AObj} (ho:Hp[o]? = some z) (hne:ox≠o):((Hp.set o A).set ox B)[o]? = some A:=by rw [List.getElem?_set_ne hne];exact getset ho
theorem gB {Hp:List AObj} {o ox:Nat} {z A B:AObj} (hox:Hp[ox]? = some z):((Hp.set o A).set ox B)[ox]? = some B:=by
 have:=(List.getElem?_eq_some_iff.1 hox).1
 simp [this]
theorem re {Hp:List AObj} {o ox:Nat} {A A' B:AObj} (hne:ox≠o):((Hp.set o A).set ox B).set o A'=(Hp.set o A').set ox B:=by rw [List.set_comm _ _ hne,List.set_set]
theorem M7 (ks:List Expr) (x:Expr):ks.map A5++[.agg [.v (.int .i64 x.op),.v (sv x.text),.v (.int .i64 x.val.kind),.v (.int .i64 x.val.n),.v (sv x.val.s),.slice false 6 (x.kids.map A5)]]=(ks++[x]).map A5:=by rw [List.map_append,List.map_cons,List.map_nil,Ac x]
theorem AE3 (l:List Tok) (S:PS) (t:Str) (Dv:Fam) (o ox:Nat) (Hp:List AObj) (hne:ox≠o) (ho:Hp[o]? = some (pr l S)) (hox:Hp[ox]? = some (xo true t [])) (hi:S.i<l.length) (hl:TokEnd l) (hll:l.length≤1048576) (hf:Dj l S.nest Dv.ei) (hcf:PC 215 l Dv.ei S.nest):ACall Tryz.prog 275 [.ptr ox 0,.ro [.ptr o 0]] Hp (fun r H'=>r=A5 (.mk 6 t noV (F7 l Dv.ei S).1)∧H'=(Hp.set o (pr l (F7 l Dv.ei S).2)).set ox (xo true t (F7 l Dv.ei S).1)):=by
 have hoxl:=(List.getElem?_eq_some_iff.1 hox).1
 have hol:=(List.getElem?_eq_some_iff.1 ho).1
 refine ACall.body [.cell 2 69] [0,1] Tryz.func275 Tryz.ntmps275 (fun d=>?_)
 refine Z27 ?_;refine R.fin [0,1,2] ?_
 refine W.drawT [0,1,0,4,3,0,63,127,255,127,639] [1,3] [.q 1 [] [0],.s [4] (some 0) [] [],.q 1 [] [1],.s [6] (some 1) [] [],.q 2 [] []] (fun B=>(Hp.set o (if B 1=true then pr l (Dv.ei S).2 else pr l S)).set ox (if B 0=true then xo false t [] else xo true t [])) (fun _=>[Im]) Ab (by kernel_rfl) (by simp only [Bool.false_eq_true,if_false];rw [Ep ho,Ep hox]) rfl (fun B=>by simp) ?_
 apply Y.q
 case h1 =>
  intro B hT hF
  exact Z60
 case hTF=>decide
 refine Y.loadUpT (o:=ox) (t':=69) (cs:=[A3 6,Aa t,A3 0,A3 0,Aa [],.slice true 6 ([].map A5)]) (cs':=[A3 6,Aa t,A3 0,A3 0,Aa [],.slice false 6 ([].map A5)]) Tryz.isAgg45 (fun B hB=>⟨by simp only [hB];exact gB hox,by simp [upd,List.set_set]<;>rfl,rfl⟩) ?_
 apply Y.q
 case h1 =>
  intro B hT hF
  exact Z60
 case hTF=>decide
 refine Y.callUp (r:=A5 (Dv.ei S).1) (o:=o) (x0:=pr l S) (x:=pr l (Dv.ei S).2) Tryz.call215 (fun B hT hF hB=>⟨by simp only [hB];exact gA ho hne,?_,rfl,C7,?_⟩) ?_
 ·simp only [upd,hB,Nat.reduceEqDiff,if_false,if_true,Bool.false_eq_true]
  exact (re hne).symm
 ·simp only [hB]
  exact hcf o _ S (A4 (gA ho hne)) hi rfl
 apply Y.q
 case h1 =>
  intro B hT hF
  exact j9
 case hTF=>decide
 refine Y.appendPut (tn:=[1,3]) (U:=(Hp.set o (pr l (Dv.ei S).2)).set ox (xo false t [])) (O:=[Im]) (o:=ox) (t':=69) (cs:=[A3 6,Aa t,A3 0,A3 0,Aa [],.slice false 6 ([].map A5)]) (by kernel_rfl) jU Tryz.type69 Tryz.sizeOf69 Tryz.sizeOf45 jU (A4 (gB hox)) ?_ ?_ ?_ (hfsz:=Tryz.sizeOf45)
 ·simp [Tryz.t69]
 ·simp [Tryz.t69]
 refine R.go ?_
 refine R.storeUpT jS (gB hox) ?_ ?_
 ·first|(rw [M7];exact Dy)|(have:=Dy (n:=((Hp.set o (pr l (Dv.ei S).2)).set ox (xo false t [])).length) (k:=6) (o:=true) (l:=[(Dv.ei S).1]);simp only [List.map_cons,List.map_nil,Ac] at this;exact this)
 refine R.fin [0,1,2] ?_;refine W.seq ?_
 refine AW.loopC (α:=List Expr×PS) (fun r=>⟨34,A6 0 (.ptr ox 0) (A6 1 (.ro [.ptr o 0]) (A6 2 (.ptr (oid Hp.length 0) 0) (fun _=>.any))),(Hp.set o (pr l r.2)).set ox (xo true t r.1),[Im],[],none⟩) (fun r=>ArgsAt l Dv.ei S r) (fun r=>l.length-r.2.i) (([(Dv.ei S).1],(Dv.ei S).2)) (.start (hf S hi rfl)) (StLe.of_eq (by simp [List.set_set,xo,Ac])) rfl (fun r hx=>?_)
 refine Z55 ?_
 refine R.go (h:=Q.loadUp (gA ho hne)) (hr:=?_)
 refine Z94 ?_;refine G.call Tryz.call244 (fun hB=>Yb l r.2 Ji o _ (A4 (gA ho hne)) hx.fact.lt hl (by decide)) ?_;refine R.go ?_;refine R.fin [0,1,2,21] ?_
 refine W.cond (fun ht21=>?_) (fun ht21=>?_)
 ·have hon:=hx.on hl ht21 hf
  have hle:=hon.2.1.le
  have hlt0:=hx.fact.lt
  refine nh ?_;refine Z0 ?_;refine R.callUp Tryz.call245 (gA ho hne) (by simp) C7 (oz l r.2 o _ (A4 (gA ho hne)) hx.fact.lt hll) ?_;refine R.fin [0,1,2] ?_
  refine W.drawT0 [0,1,0,4,3,0,63,127,255,127,639] [1,3] [.q 1 [] [0],.s [25] (some 0) [] [],.q 1 [] [1],.s [27] (some 1) [] [],.q 2 [] []] (fun B=>(Hp.set o (if B 1=true then pr l (Dv.ei (A2 r.2)).2 else pr l (A2 r.2))).set ox (if B 0=true then xo false t r.1 else xo true t r.1)) (fun _=>[Im]) Ab (by kernel_rfl) (by simp only [Bool.false_eq_true,if_false];exact (re hne).symm) rfl (fun B=>by simp) ?_
  apply Y.q
  case h1 =>
   intro B hT hF
   exact Z60
  case hTF=>decide
  refine Y.loadUpT (o:=ox) (t':=69) (cs:=[A3 6,Aa t,A3 0,A3 0,Aa [],.slice true 6 (r.1.map A5)]) (cs':=[A3 6,Aa t,A3 0,A3 0,Aa [],.slice false 6 (r.1.map A5)]) Tryz.isAgg45 (fun B hB=>⟨by simp only [hB];exact gB hox,by simp [upd,List.set_set]<;>rfl,rfl⟩) ?_
  apply Y.q
  case h1 =>
   intro B hT hF
   exact Z60
  case hTF=>decide
  refine Y.callUp (r:=A5 (Dv.ei (A2 r.2)).1) (o:=o) (x0:=pr l (A2 r.2)) (x:=pr l (Dv.ei (A2 r.2)).2) Tryz.call215 (fun B hT hF hB=>⟨by simp only [hB];exact gA ho hne,?_,rfl,C7,?_⟩) ?_
  ·simp only [upd,hB,Nat.reduceEqDiff,if_false,if_true,Bool.false_eq_true]
   exact (re hne).symm
  ·simp only [hB]
   exact hcf o _ (A2 r.2) (A4 (gA ho hne)) hon.1 hx.fact.nest
  apply Y.q
  case h1 =>
   intro B hT hF
   exact j9
  case hTF=>decide
  refine Y.appendPut (tn:=[1,3]) (U:=(Hp.set o (pr l (Dv.ei (A2 r.2)).2)).set ox (xo false t r.1)) (O:=[Im]) (o:=ox) (t':=69) (cs:=[A3 6,Aa t,A3 0,A3 0,Aa [],.slice false 6 (r.1.map A5)]) (by kernel_rfl) jU Tryz.type69 Tryz.sizeOf69 Tryz.sizeOf45 jU (A4 (gB hox)) ?_ ?_ ?_ (hfsz:=Tryz.sizeOf45)
  ·have:=hx.fact.len;have:=hx.fact.lt;simp only [List.length_map,Tryz.t69];omega
  ·have:=hx.fact.len;have:=hx.fact.lt;simp only [List.length_map,Tryz.t69];omega
  refine R.go ?_
  refine R.storeUpT jS (gB hox) ?_ ?_
  ·first|(rw [M7];exact Dy)|(have:=Dy (n:=((Hp.set o (pr l (Dv.ei S).2)).set ox (xo false t [])).length) (k:=6) (o:=true) (l:=[(Dv.ei S).1]);simp only [List.map_cons,List.map_nil,Ac] at this;exact this)
  refine R.fin [0,1,2] ?_;refine K.blN ?_
  refine K.lpN (r.1++[(Dv.ei (A2 r.2)).1],(Dv.ei (A2 r.2)).2) hon.2.2 (by show l.length-(Dv.ei (A2 r.2)).2.i<l.length-r.2.i;have:r.2.i+1≤(Dv.ei (A2 r.2)).2.i:=hle;omega) (StCut.of_eq ?_)
  simp only [show Tryz.t69.size=6 from rfl,M7,List.set_set]
 have hout:=hx.out (by rw [ht21];simp)
 refine Z47 ?_;refine E4 ?_
 refine R.go (h:=Q.loadUpN (gB hox)) (hr:=?_)
 refine Z26 ?_;exact K.fin (V.one (V.cellN jA jS)) ⟨by rw [hout,Wj];rfl,by rw [hout]⟩ (hlow:=by have:=Aj Hp.length (.mk 6 t noV r.1);rw [Wj] at this;simpa using this)

/-- within, with the function that gathers a call's kids. -/
theorem AC8 (l:List Tok) (S:PS) (a:Int) (t:Str) (Dv:Fam) (o:Nat) (Hp:List AObj) (A0 A1:AObj) (l0:ObjLow 0 A0) (ho:Hp[o]? = some (pr l S)) (hi:S.i<l.length) (hl:TokEnd l) (hll:l.length≤1048576) (hnl:S.nest≤30) (hd:DeepC l Dv S.nest):
  ACall Tryz.prog 259 [.ptr o 0,A3 a,.fn (.func 275) [] [.ptr (oid Hp.length 2) 0,.ro [.ptr o 0]]] (Hp++[A0,A1,xo true t []]) (fun r H'=>r=A5 (if S.nest=30 then Ad else .mk 6 t noV (H5 l a Dv.ei S).1)∧H'=Hp.set o (pr l (H5 l a Dv.ei S).2)++[A0,A1,xo true t (H5 l a Dv.ei S).1]):=by
 have hlt:=(List.getElem?_eq_some_iff.1 ho).1
 have ho':(Hp++[A0,A1,xo true t []])[o]? = some (pr l S):=A4 ho
 by_cases h30:S.nest=30
 ·refine (ut l S a 275 [] [.ptr (oid Hp.length 2) 0,.ro [.ptr o 0]] Ad (Al S) o (Hp++[A0,A1,xo true t []]) ((Hp++[A0,A1,xo true t []]).set o (pr l (Al S))) ho' (by omega) Tryz.call275 (by simp) (getset ho') rfl (fun h=>h) (fun h=>absurd h30 h)).mono fun r H' h=>?_
  have e:H5 l a Dv.ei S=([],Ch 18 a S):=if_pos (by rw [h30];rfl)
  rw [e,if_pos h30]
  obtain ⟨h1,h2⟩:=h.1 h30
  exact ⟨h1,by rw [h2,List.set_append_left _ _ hlt]⟩
 have hq:=Ro (S:=Al S) hl hi (hd.ei h30).1
 refine (ut l S a 275 [] [.ptr (oid Hp.length 2) 0,.ro [.ptr o 0]] (.mk 6 t noV (F7 l Dv.ei (Al S)).1) (F7 l Dv.ei (Al S)).2 o (Hp++[A0,A1,xo true t []]) (Hp.set o (pr l (F7 l Dv.ei (Al S)).2)++[A0,A1,xo true t (F7 l Dv.ei (Al S)).1]) ho' (by omega) Tryz.call275 (by simp) (A4 (getset ho)) hq.nest (fun h y hy=>?_) (fun _ own=>?_)).mono fun r H' h=>?_
 ·rw [List.set_append_left _ _ hlt] at h
  rcases List.mem_append.1 hy with hy|hy
  ·rcases List.mem_or_eq_of_mem_set hy with h1|h1
   ·obtain ⟨i,hi',rfl⟩:=List.getElem_of_mem h1
    by_cases hio:i=o
    ·subst hio
     have:Hp[i]=pr l S:=by rw [List.getElem?_eq_getElem hi'] at ho;injection ho
     rw [this];exact C7
    refine h _ (List.mem_append_left _ ?_)
    rw [List.mem_iff_getElem?]
    exact ⟨i,by rw [List.getElem?_set_ne (Ne.symm hio),List.getElem?_eq_getElem hi']⟩
   rw [h1];exact C7
  simp only [List.mem_cons,List.not_mem_nil,or_false] at hy
  rcases hy with rfl|rfl|rfl
  ·exact h _ (List.mem_append_right _ (by simp))
  ·exact h _ (List.mem_append_right _ (by simp))
  exact zc
 ·have hoid:oid Hp.length 2≠o:=by unfold oid;omega
  have e1:(Hp++[A0,A1,xo true t []]).set o (pr l (Al S))++own=(Hp.set o (pr l (Al S))++[A0,A1,xo true t []])++own:=by rw [List.set_append_left _ _ hlt]
  rw [e1]
  have g1:((Hp.set o (pr l (Al S))++[A0,A1,xo true t []])++own)[o]? = some (pr l (Al S)):=A4 (A4 (getset ho))
  have g2:((Hp.set o (pr l (Al S))++[A0,A1,xo true t []])++own)[oid Hp.length 2]? = some (xo true t []):=A4 (by
   have:=Br (U:=Hp.set o (pr l (Al S))) (O:=[A0,A1,xo true t []]) (n:=2)
   rw [List.length_set] at this
   exact this)
  refine (AE3 l (Al S) t Dv o (oid Hp.length 2) _ hoid g1 g2 hi hl hll (hd.ei h30).1 (hd.ei h30).2).mono fun r H' h=>⟨h.1,h.2.trans ?_⟩
  rw [List.append_assoc,List.set_append_left _ _ (by simpa using hlt),List.set_set]
  have:=Ie (U:=Hp.set o (pr l (F7 l Dv.ei (Al S)).2)) (O:=[A0,A1,xo true t []]++own) (n:=2) (x:=xo true t (F7 l Dv.ei (Al S)).1)
  rw [List.length_set] at this
  rw [this]
  simp
 have e:H5 l a Dv.ei S=((F7 l Dv.ei (Al S)).1,Lm (F7 l Dv.ei (Al S)).2):=if_neg (by
  show ¬(((S.nest:Int)==30)=true)
  simp
  omega)
 rw [e,if_neg h30]
 obtain ⟨h1,h2⟩:=h.2 h30
 exact ⟨h1,by rw [h2,List.set_append_left _ _ (by simpa using hlt),List.set_set]⟩
theorem AE4 (l:List Tok) (S:PS) (Dv:Fam) (t:Tok) (o:Nat) (Hp:List AObj) (ho:Hp[o]? = some (pr l S)) (hi:(A2 S).i<l.length) (hl:TokEnd l) (hll:l.length≤1048576) (hnl:S.nest≤30) (hd:DeepC l Dv S.nest):ACall Tryz.prog 273 [.ptr o 0,Hb t] Hp (fun r H'=>r=A5 (F3 l Dv t S).1∧H'=Hp.set o (pr l (F3 l Dv t S).2)):=by
 have hi0:S.i<l.length:=by have:S.i+1<l.length:=hi;omega
 have hol:=(List.getElem?_eq_some_iff.1 ho).1
 have hkf:KFact l (A2 S) (Bb l Dv S):=Rp hl _ hi (fun h=>(hd.ei h).1)
 refine ACall.body [.cell 4 69] [0,1] Tryz.func273 Tryz.ntmps273 (fun d=>?_)
 refine Z3 ?_;refine R.alloc jZ ?_;refine R.fin [2,3,4] ?_;refine Z3 ?_;refine R.call Tryz.call145 (c145 t.text _) ?_;refine R.go ?_;refine R.fin [2,3,4,5] ?_;refine Z31 ?_;refine R.fin [2,3,4,5,12] ?_
 refine W.cond (fun ht12=>?_) (fun ht12=>?_)
 ·have hlt0:B5 t.text<0:=by simpa using ht12
  have e:F3 l Dv t S=(Ad,Ch 9 t.at_ S):=if_pos hlt0
  refine Z19 ?_;refine R.callUp Tryz.call217 ho (by simp) C7 (km l S 9 t.at_ o _ (A4 ho)) ?_;refine Hv ?_;refine Z17 ?_;exact Z65
 have hge:¬B5 t.text<0:=by simpa using ht12
 refine Mf ?_;refine R.callUp Tryz.call245 ho (by simp) C7 (oz l S o _ (A4 ho) hi0 hll) ?_;refine Z15 ?_;refine R.fin [2,3,4,5,6] ?_;refine AAp ?_;refine Z15 ?_;refine R.fin [2,3,4,5,6,7] ?_;refine E4 ?_;refine R.nilCell 2 5 6 ?_;refine Z6 ?_;refine R.makeFunc ?_
 refine R.callX (up':=(Hp.set o (pr l (A2 S))).set o (pr l (Bb l Dv S).2)) (own':=[Im,.cells 59 [A3 (A7 l S.i).kind,Aa (A7 l S.i).text,A3 (A7 l S.i).at_],xo true t.text (Bb l Dv S).1]) Tryz.call259 (by have:=AC8 l (A2 S) (A7 l S.i).at_ t.text Dv o (Hp.set o (pr l (A2 S))) Im (.cells 59 [A3 (A7 l S.i).kind,Aa (A7 l S.i).text,A3 (A7 l S.i).at_]) f7 (getset ho) hi hl hll hnl hd;rw [List.length_set] at this;exact this) (by simp) (fun h=>uv h C7) ?_
 refine R.fin [2,3,4,5,7] ?_;refine Z0 ?_;refine R.callUp Tryz.call274 (getset (getset ho)) (by simp) C7 (ABq l (Bb l Dv S).2 D0 o _ (A4 (getset (getset ho))) hkf.lt hll) ?_;refine R.fin [2,3,4,5,7] ?_;refine Z55 ?_
 refine R.go (h:=Q.loadUp (getset (getset (getset ho)))) (hr:=?_)
 refine Vs ?_;refine Z68 ?_;refine R.fin [2,3,4,7,41] ?_
 refine W.cond (fun ht41=>?_) (fun ht41=>?_)
 ·have e:F3 l Dv t S=(Ad,Ch 8 t.at_ (Ce l D0 (Bb l Dv S).2)):=by
   unfold F3
   rw [if_neg hge,if_pos (by have:=ht41;simp only [List.length_map] at this;exact this)]
  refine Z19 ?_;refine R.callUp Tryz.call217 (getset (getset (getset ho))) (by simp) C7 (km l (Ce l D0 (Bb l Dv S).2) 8 t.at_ o _ (A4 (getset (getset (getset ho))))) ?_;refine Hv ?_;refine Z17 ?_;refine K.thR ?_;exact K.fin (V.one (V.cellN jA jS)) ⟨by rw [e,Ac],by rw [e,List.set_set,List.set_set,List.set_set]⟩ (hlow:=low_agg _)
 have e:F3 l Dv t S=(.mk 6 t.text noV (Bb l Dv S).1,(Ce l D0 (Bb l Dv S).2)):=by
  unfold F3
  rw [if_neg hge,if_neg (by have:=ht41;simp only [List.length_map] at this;rw [Bool.eq_false_iff] at this;exact this)]
 refine Mf ?_;refine Hv ?_;refine Z17 ?_;exact K.fin (V.one (V.cellN jA jS)) ⟨by rw [e,Wj];rfl,by rw [e,List.set_set,List.set_set]⟩ (hlow:=by have:=Aj Hp.length (.mk 6 t.text noV (Bb l Dv S).1);rw [Wj] at this;simpa using this)

theorem lj {l:List Tok} (hl:TokEnd l) (hll:l.length≤1048576) (n:Nat) (Dv:Fam) (hn:n≤30) (hd:DeepC l Dv n):Yc l Dv n:=fun o Hp S t ho hi hS _ _=>by
 subst hS
 exact AE4 l S Dv t o Hp ho hi hl hll hn hd
theorem dh {e:Expr} (h:At e=true):e.text.length≤16∧e.kids.length≤8:=by
 cases Fi h with
 | val v hp h0=>exact ⟨by simp [Ff,Expr.text],by simp [Ff,Expr.kids]⟩
 | name t ht =>
  refine ⟨?_,by simp [Aq,Expr.kids]⟩
  show t.length≤16
  cases t with
  | nil=>simp
  | cons c r =>
   simp only [E0,Bool.and_eq_true,decide_eq_true_eq] at ht
   exact ht.1.1.1
 | neg a=>exact ⟨by simp [Bq,Expr.text],by simp [Bq,Expr.kids]⟩
 | no a=>exact ⟨by simp [Bq,Expr.text],by simp [Bq,Expr.kids]⟩
 | bin t a b ht=>exact ⟨by have:=Zc ht;show t.length≤16;omega,by simp [C6,Expr.kids]⟩
 | call t k ha =>
  refine ⟨by have:=So ha;show t.length≤16;omega,?_⟩
  show k.length≤8
  rcases M3 ha with ⟨_,e⟩|⟨_,e⟩|⟨_,e⟩|⟨_,e⟩|⟨_,e⟩|⟨_,e⟩|⟨_,e⟩|⟨_,e⟩<;>omega
theorem Uv:∀{l:List Expr} {y:Expr},y∈l→depthE y≤Cz l
 | a::r,y,h=>by
  rw [Cz]
  rcases List.mem_cons.1 h with rfl|h
  ·omega
  have:=Uv h
  omega
theorem gr:∀(n:Nat) (e:Expr),depthE e≤n→B0 At e=true→okE n e
 | 0,e,h,_=>by rw [L3] at h;omega
 | n+1,e,h,hn=>by
  rw [Co,Bool.and_eq_true] at hn
  rw [L3] at h
  have hs:=dh hn.1
  refine ⟨by omega,by omega,fun y hy=>gr n y (by have:=Uv hy;omega) ((Bv _ _).1 hn.2 y hy)⟩
theorem Uw {e:Expr} (h:Ax e=true):okE 30 e∧sizeE e≤300:=by
 have h1:=Ev h
 unfold Ax at h
 simp only [Bool.and_eq_true,decide_eq_true_eq] at h
 exact ⟨gr 30 e h.1.1 h1,h.1.2⟩
theorem AE5 (n:Nat) (e:Expr) (hok:okE n e) (hn:n≤1048576) (hg:B0 D6 e=true) (Hp:List AObj):AFun Tryz.prog 101 [A5 e] Hp (.tup [Aa (Ek e).1,A3 (Ek e).2]):=by
 refine ACall.body [.tmp 2,.tmp 3] [0] Tryz.func101 Tryz.ntmps101 (fun d=>?_)
 refine Z19 ?_;refine R.fin [1] ?_;refine Z8 ?_;refine R.call Tryz.call70 (c70 n e hok hn _) ?_;refine R.go ?_;refine R.fin [1,7] ?_
 refine W.cond (fun ht7=>?_) (fun ht7=>?_)
 ·have hsh:Ek e=([],1):=if_pos ht7
  exact AA5
 have hnr:¬(!(B4 e))=true:=by rw [ht7];simp
 have hr:Ax e=true:=by rw [←Cu];simpa using ht7
 have hps:=Zd hr hg
 refine aq ?_;refine R.build (places:=#[(0,2)]) jU (fun w=>by simp) jZ ?_;refine R.box ?_;refine R.go ?_;refine R.fin [1,4] ?_;refine E4 ?_;refine R.toBld 0 160 5 ?_;refine Z1 ?_
 refine R.callOwn (n:=0) (x:=Sn (A8 e)) Tryz.call137 (AE1 n e hok (Ev hr) hg (oid Hp.length 0) [] _ (by rw [Br];rfl) (by simp only [Fu,List.length_nil];omega)) ?_
 refine R.fin [4] ?_;refine Z22 ?_
 refine R.call Tryz.call32 (c32 (A8 e) (oid Hp.length 0) _ (by rw [Br];rfl)) ?_
 refine R.go ?_;refine R.fin [4,17] ?_
 refine W.cond (fun ht17=>?_) (fun ht17=>?_)
 ·have hsh:Ek e=([],3):=by unfold Ek;rw [if_neg hnr,if_pos ht17]
  exact AA5
 have hsh:Ek e=(A8 e,0):=by unfold Ek;rw [if_neg hnr,if_neg (by rw [ht17];simp)]
 refine Vr ?_
 refine R.callOwn (n:=0) (x:=.cells 160 [.any,.any]) Tryz.call33 (c33 (A8 e) (oid Hp.length 0) _ (by rw [Br];rfl)) ?_
 refine Z1 ?_;refine Z21 ?_;exact AB8

/-! fuse.Forth and plan.Text. -/
/-! The text. -/
/-! ONE LINE EACH. -/
/-! How long plan.Text's pieces are. -/
theorem rf:liesAt Tryz.prog Tryz.prog.depth 74 (2 / Tryz.prog.cellsOf 74) 0 74 1=true:=by kernel_rfl
abbrev Zf (bs:Str):AObj:=.bld 74 5 bs
theorem rg {n:Nat} {bs:Str}:ObjLow n (Zf bs):=trivial
theorem AE6 (bs s:Str) (hl:bs.length+s.length≤140737488355328) (o:Nat) (Hp:List AObj) (ho:Hp[o]? = some (Zf bs)):
  ACall Tryz.prog 31 [.ptr o 0,Aa s] Hp (fun r H'=>r=.tup [A3 s.length,.v .nilIface]∧H'=Hp.set o (Zf (bs++s))):=by
 refine ACall.bldWrite ho (fun b p v w h=>?_)
 have hw:=bldWrite Tryz.lays166 w8 (T:=74) rf (by decide) b p v bs.length (Lib.byteCells bs) ⟨s.toArray⟩ w h (by rw [Dc];exact hl)
 rw [Dc,Lib.strCells_eq,←Lib.byteCells_append] at hw
 exact hw
theorem AE7 (bs:Str) (o:Nat) (Hp:List AObj) (ho:Hp[o]? = some (Zf bs)):ACall Tryz.prog 33 [.ptr o 0] Hp (fun r H'=>r=Aa bs∧H'=Hp.set o (.cells 74 [.any,.any])):=
 ACall.bldString ho (fun b p v w h hc=>bldString (ρ:=Tryz.ren155) { Tryz.lays155 with } w8 (T:=74) b p v bs w h hc)
section
variable {O X U:List AObj} {i:Nat} {b y:AObj}
end
end Go.SX.Nb
namespace Go.SX
variable [GI:GlobInv]
open Classical
/-- An object that no memory holds: what is told of a state behind an operation that surely panics. -/
def ll:AObj:=.cells 0 [.agg [.agg []]]
def bot (b:Bool):List AObj:=if b then [ll] else []
theorem zd {G:Gh} {w:World} {i:Nat}:¬ObjRel G w i ll:=fun h=>by
 obtain ⟨u,_,hr⟩:=Is (y:=.agg [.agg []]) (j:=0) h rfl
 cases hr with
 | agg _ _ vs hn h1 _=>exact absurd (h1 _ (List.mem_singleton.2 rfl)) (by simp [AV.one])
section
variable {P:Program} {d:Nat}
theorem StRel.bot {G:Gh} {st:St} {a:Act} {w:World} (h:StRel d G st a w) (hb:ll∈st.own):False:=by
 obtain ⟨i,hi⟩:=List.getElem?_of_mem (List.mem_append_right st.up hb)
 exact zd (h.heap.obj i _ hi)
theorem Q5 {b:Bool} {l:List AObj} (h:b=true):ll∈l++bot b:=by subst h;exact List.mem_append_right _ (List.mem_singleton.2 rfl)
variable {sz:Nat} {dfs:List Nat} {rnd:Option Nat} {l0:List Oper} {up own:(Nat→Bool)→List AObj} {KP:List PanicEntry→St→Prop} {E:List Oper→(Nat→AV)→Prop} {S:List SegY} {l:List Oper} {fr:Nat→AV} {ty:TypeId} {pos:String} {aft:Array Edge} {s:Nat} {T F:List Nat}
/-- What stands behind the operation that panics never runs. -/
theorem Y.bot {W:List Nat} {o:Oper} (hb:∀B:Nat→Bool,(∀p∈T,B p=true)→ll∈own B) (h:ChainY P d l0 sz up own dfs rnd KP E S l (Gl (W.map fun s=>(s,.any)) fr)) (hg:o.guard=none:=by rfl):
  ChainY P d l0 sz up own dfs rnd KP E (.s W none T F::S) (o::l) fr:=by
 refine ⟨_,l,W.map fun s=>(s,.any),rfl,⟨?_,hg,fun B f hT _ _ _ G a w hr=>?_⟩,h⟩
 ·simp [Function.comp_def]
 exact (StRel.bot hr (hb B hT)).elim
theorem Y.endBot {tn:List Nat} {Q:St→Prop} (hb:ll∈own (fun p=>decide (p<tn.length))):ChainY P d l0 sz up own dfs rnd KP (fun l' f=>ARun P d l0.toArray l' ⟨sz,f,up (fun p=>decide (p<tn.length)),own (fun p=>decide (p<tn.length)),dfs,rnd⟩ Q) [] l fr:=
 fun G a w hr=>(StRel.bot hr hb).elim
/-- A call that surely panics. -/
theorem Y.callBad {f0:Operand} {g:FuncId} {xs:List Operand} {ats:Array TypeId} {first caps args:List AV} {pn:Nat} {up0 own0:List AObj} {pp:Value→List AObj→Prop} (hcall:∀args w,(callFunc g args).run P w=.ok (.enter g args) w)
  (hU:∀B:Nat→Bool,B pn=false→up B=up0∧own B=own0) (hA:ACallP P g args (up0++own0) (fun _ _=>False) pp)
  (hpp:∀x U O f,U.length=up0.length→(U++O).length=(up0++own0).length→pp x (U++O)→((∀x∈up0,ObjLow U.length x)→∀x∈U,ObjLow U.length x)∧(∀o∈dfs,(up0++own0)[o]? = some .defs→(U++O)[o]? = some .defs)∧KP (Fd x) ⟨sz,f,U,O,dfs,rnd⟩)
  (h:ChainY P d l0 sz up own dfs rnd KP E S l (A6 s .any fr))
  (hf0:Ai fr f0=.fn (.func g) first caps:=by exact sL0) (ha:first++xs.map (Ai fr)++caps=args:=by exact sL0):
  ChainY P d l0 sz up own dfs rnd KP E (.s [s] (some pn) T F::S) (⟨some s,.call ⟨.value f0,xs.toArray,ats⟩,ty,pos,aft,none⟩::l) fr:=by
 refine ⟨_,l,[(s,.any)],rfl,⟨rfl,rfl,fun B f _ _ hB hf G a w hr=>?_⟩,h⟩
 obtain ⟨e1,e2⟩:=hU B (hB pn rfl)
 rw [e1,e2] at hr ⊢
 have e:first++xs.map (Ai f)++caps=args:=by rw [ak hf (fun x hx=>by simp [Op.operands,Call.operands,hx])];exact ha
 have e0:Ai f f0=.fn (.func g) first caps:=by rw [agr hf (by simp [Op.operands,Call.operands])];exact hf0
 have hev:St.ev ⟨sz,f,up0,own0,dfs,rnd⟩ f0=.fn (.func g) first caps:=e0
 have hfr:=hev ▸ hr.eval f0
 generalize hfv:a.eval f0=fv at hfr
 cases hfr with
 | fn _ _ _ _ va vc hna hnc h1 h2 =>
  have hxr:=Mb hr xs
  subst e
  refine Ox (by intro c h;cases h) (J8 hcall hfv) (hA d G w _ (by simp [hna,hnc]) (fun i y u hy hu=>?_) hr.heap hr.tags hr.top) ?_
  ·rw [List.append_assoc] at hy
   rw [Array.append_assoc] at hu
   rcases Nat.lt_or_ge i first.length with hi|hi
   ·rw [List.getElem?_append_left hi] at hy
    rw [Array.getElem?_append_left (by omega)] at hu
    exact (h1 i y u hy hu).lift
   rw [List.getElem?_append_right hi] at hy
   rw [Array.getElem?_append_right (by omega),hna] at hu
   rcases Nat.lt_or_ge (i-first.length) xs.length with hj|hj
   ·rw [List.getElem?_append_left (by simpa using hj)] at hy
    rw [Array.getElem?_append_left (by simpa using hj)] at hu
    exact (hxr _ y u hy hu).lift
   rw [List.getElem?_append_right (by simpa using hj)] at hy
   rw [Array.getElem?_append_right (by simpa using hj)] at hu
   simp only [List.length_map,List.size_toArray] at hy hu
   exact (h2 _ y u hy hu).lift
  rintro e w' (⟨v,G',y,H',rfl,hrep,hH,hT,hk,hlen,hpo⟩|⟨x,G',H',rfl,hH,hT,hk,hlen,hpo⟩)
  ·exact hpo.elim
  have hl':up0.length≤H'.length:=by rw [hlen];simp
  obtain ⟨U,hU'⟩:∃U,U=H'.take up0.length:=⟨_,rfl⟩
  obtain ⟨O,hO⟩:∃O,O=H'.drop up0.length:=⟨_,rfl⟩
  have e1':H'=U++O:=by rw [hU',hO];exact (List.take_append_drop _ _).symm
  have e2':U.length=up0.length:=by rw [hU'];simp;omega
  subst e1'
  obtain ⟨q1,q2,q3⟩:=hpp x U O f e2' hlen hpo
  have h3:=hr.called hH hT hk rfl e2' (fun o ho=>q2 o ho (hr.defsAt o ho)) (q1 (by rw [e2'];exact hr.low))
  exact .inr ⟨_,rfl,_,rfl,_,_,h3,hk.less (Nat.le_succ d),e2',rfl,rfl,rfl,q3⟩
/-- A panic, drawn. -/
theorem Y.panic {x:Operand} {t:TypeId} {vs:List Value} {pn:Nat} (hq:∀B:Nat→Bool,B pn=false→∀f,KP (Fd (.iface t (.agg vs.toArray))) ⟨sz,f,up B,own B,dfs,rnd⟩) (h:ChainY P d l0 sz up own dfs rnd KP E S l fr)
  (hx:Ai fr x=.iface t (.agg (vs.map .v)):=by exact sL0):
  ChainY P d l0 sz up own dfs rnd KP E (.s [] (some pn) T F::S) (⟨none,.panic x,ty,pos,aft,none⟩::l) fr:=by
 refine ⟨_,l,[],rfl,⟨rfl,rfl,fun B f _ _ hB hf G a w hr=>?_⟩,h⟩
 have hxr:=hr.eval x
 have hev:St.ev ⟨sz,f,up B,own B,dfs,rnd⟩ x=.iface t (.agg (vs.map .v)):=by
  show Ai f x=_
  rw [agr hf (by simp [Op.operands])];exact hx
 rw [hev] at hxr
 refine ⟨fun _ _=>trivial,?_⟩
 rw [Oper.semAt_eq _ _ _ (by intro c h;cases h)]
 have he:(execOp a.eval ⟨none,.panic x,ty,pos,aft,none⟩).run P w=.halt (.panic (.iface t (.agg vs.toArray))) w:=by
  show ((do let v ←Instr.panic (a.eval x);pure (.value v)):Sem Next).run P w=_
  rw [Qn hxr]
  rfl
 rw [he]
 exact ⟨_,rfl,G,_,hr,Keep.refl _ _ _,rfl,rfl,rfl,rfl,hq B (hB pn rfl) f⟩
theorem Hi {U O A B:List AObj} (hl:U.length=A.length) (h:U++O=A++B):A=U∧B=O:=List.append_inj h.symm hl.symm
theorem B8 {U O A B:List AObj} {o:Nat} {x:AObj} (hl:U.length=A.length) (ho:o<A.length) (h:U++O=(A++B).set o x):A.set o x=U∧B=O:=by
 rw [List.set_append_left _ _ ho] at h
 exact List.append_inj h.symm (by simpa using hl.symm)
end
section
variable {P:Program} {d:Nat} {ops:Array Oper}
/-- A call that surely panics. -/
theorem RK.callBad {sz s:Nat} {fr:Nat→AV} {up own:List AObj} {dfs:List Nat} {rnd:Option Nat} {ty:TypeId} {pos:String} {aft:Array Edge} {rest:List Oper} {K:Exit→St→Prop} {f:Operand} {g:FuncId} {xs:List Operand} {ats:Array TypeId} {first caps args:List AV} {pp:Value→List AObj→Prop}
  (hcall:∀args w,(callFunc g args).run P w=.ok (.enter g args) w) (h:ACallP P g args (up++own) (fun _ _=>False) pp)
  (hpp:∀x U O,U.length=up.length→(U++O).length=(up++own).length→pp x (U++O)→((∀x∈up,ObjLow U.length x)→∀x∈U,ObjLow U.length x)∧(∀o∈dfs,(up++own)[o]? = some .defs→(U++O)[o]? = some .defs)∧K (.panic (Fd x)) ⟨sz,fr,U,O,dfs,rnd⟩)
  (hf:Ai fr f=.fn (.func g) first caps:=by exact sL0) (ha:first++xs.map (Ai fr)++caps=args:=by exact sL0) (hs:Nat.blt s sz=true:=by rfl):
  ARunK P d ops (⟨some s,.call ⟨.value f,xs.toArray,ats⟩,ty,pos,aft,none⟩::rest) ⟨sz,fr,up,own,dfs,rnd⟩ K:=RK.callV hcall h (fun _ _ _ _ _ h=>h.elim) hpp hf ha hs
theorem AW.upEq {c:Code} {sz:Nat} {fr:Nat→AV} {up up' own:List AObj} {dfs:List Nat} {rnd:Option Nat} {K:Exit→St→Prop} (e:up=up') (h:AW P d c ⟨sz,fr,up',own,dfs,rnd⟩ K):AW P d c ⟨sz,fr,up,own,dfs,rnd⟩ K:=e ▸ h
end
end Go.SX
namespace Go.SX
variable [GI:GlobInv]
open Classical
section
variable {P:Program} {d:Nat} {st:St} {ty:TypeId} {pos:String} {aft:Array Edge} {gd:Option (Nat×Bool)}
/-- A variable of its own, not laid yet. -/
theorem AOp.allocP {t:TypeId} {z:Value} {k s:Nat} (hz:∀w,(zeroValue t).run P w=.ok z w) (hk:z.cells.size=k) (hs:s<st.sz):
  AOp P d ⟨some s,.alloc t,ty,pos,aft,gd⟩ st (·=st.set s (.cellp k)):=by
 subst hk
 intro G a w h Q'
 let G':Gh:={ G with tag:=fun b o=>if b=w.heap.size∧o<z.cells.size then .tail (.slot d s) else G.tag b o }
 have hfree:∀o,G.tag w.heap.size o=.free:=fun o=>Dl h.tags _ o (Nat.le_refl _)
 have hne:∀b o,G.tag b o≠.free→¬(b=w.heap.size∧o<z.cells.size):=fun b o hb hc=>by rw [hc.1] at hb;exact hb (hfree o)
 have hkeep:∀b o,G.tag b o≠.free→G'.tag b o=G.tag b o:=fun b o hb=>by simp only [G'];rw [if_neg (hne b o hb)]
 have hcell:∀b o,G.tag b o≠.free→(w.alloc (.cells z.cells t)).cell? ⟨b,o,none⟩=w.cell? ⟨b,o,none⟩:=fun b o hb=>by
  refine World.cell?_alloc_old _ _ _ ?_
  show b≠w.heap.size
  rintro rfl
  exact hb (hfree o)
 have T:Turn G w G' (w.alloc (.cells z.cells t)):=by
  refine ⟨fun b o hb=>⟨by rw [hkeep b o (by rw [hb];simp)];exact hb,hcell b o (by rw [hb];simp)⟩,fun b o L hb=>by rw [hkeep b o (by rw [hb];simp)];exact hb,fun b o i hb=>by rw [hkeep b o (by rw [hb];simp)];exact hb,Nat.le_refl _,fun o ho=>rfl,rfl,rfl,rfl,by simp,Still.alloc _ (fun b o hb=>.inl (by simp only [G'];rw [if_neg (by omega)])) (fun i hi=>.inl ⟨hi,rfl⟩)⟩
 have h1:StRel d G' st a (w.alloc (.cells z.cells t)):=by
  refine h.turn (U:=st.up) (O:=st.own) T ⟨fun i x hx=>T.objRel ?_ ?_ (h.heap.obj i x hx) (fun b hb=>?_),h.heap.n,h.heap.inj⟩ rfl h.defsAt ⟨fun b o hb=>?_,fun b o i hb=>?_,fun b o L hb=>?_,h.tags.globKeep T.old⟩ h.low
  ·rw [h.heap.n];exact (List.getElem?_eq_some_iff.1 hx).1
  ·have:=(h.heap.obj i x hx).blt
   show (w.heap.push _)[G.blk i]? = _
   rw [Array.getElem?_push,if_neg (by omega)]
  ·have:=hb.lt
   show (w.heap.push _)[b]? = _
   rw [Array.getElem?_push,if_neg (by omega)]
  ·simp only [G'] at hb
   split at hb
   ·rename_i hc
    obtain ⟨rfl,hlt⟩:=hc
    exact ⟨z.cells[o],by rw [World.cell?_alloc_new];exact Array.getElem?_eq_getElem hlt⟩
   rw [hcell b o hb]
   exact h.tags.ex b o hb
  ·simp only [G'] at hb
   split at hb
   ·cases hb
   rw [World.frozen?_alloc_old]
   ·exact h.tags.obj b o i hb
   show b≠w.heap.size
   rintro rfl
   rw [hfree] at hb;cases hb
  simp only [G'] at hb
  split at hb
  ·rename_i hc
   obtain ⟨rfl,hlt⟩:=hc
   exact World.frozen?_alloc_new _ _ _ _
  rw [World.frozen?_alloc_old]
  ·exact h.tags.tail b o L hb
  show b≠w.heap.size
  rintro rfl
  rw [hfree] at hb;cases hb
 have hrun:(execOp a.eval (⟨some s,.alloc t,ty,pos,aft,gd⟩:Oper)).run P w=.ok (.value (.pointer (some ⟨w.heap.size,0,none⟩))) (w.alloc (.cells z.cells t)):=by
  simp [execOp,Instr.alloc,hz,newVar,newRow]
 refine Cq (by intro c h;cases h) hrun ⟨G',_,h1.put (s:=s) (y:=.cellp z.cells.size) hs ?_,T.keep d,rfl,rfl,rfl,rfl⟩
 exact .cellp _ _ _ ⟨_,rfl,fun o ho=>by simp [G',ho]⟩

/-- It is laid: from now on nobody writes it. -/
theorem AOp.storeP {t:TypeId} {x:Operand} {r k:Nat} {y:AV} (hsz:∀w,(sizeOf t).run P w=.ok k w) (hf:st.fr r=.cellp k) (hx:st.ev x=y) (hk:y.cells.length=k) (hk0:0<k) (h1:y.cells.all AV.one=true):
  AOp P d ⟨none,.store t (.tmp r) x,ty,pos,aft,gd⟩ st (·=st.set r (.ro y.cells)):=by
 intro G a w h Q'
 have hone:∀c∈y.cells,c.one=true:=fun c hc=>List.all_eq_true.1 h1 c hc
 obtain ⟨hc,hcc⟩:=(hx ▸ h.eval x).cells hone
 have hsl:=h.slots r
 rw [hf] at hsl
 generalize hv:a.tmps.getD r undef=v at hsl
 cases hsl with
 | cellp l k b ho =>
  obtain ⟨L,hL,ht⟩:=ho
  injection hL with hL
  subst hL
  let us:=(a.eval x).cells.toList
  have hul:us.length=k:=by simp only [us,Array.length_toList];omega
  have huone:∀u∈us,u.oneCell'=true:=fun u hu=>by
   obtain ⟨j,hj⟩:=List.getElem?_of_mem hu
   have hj':(a.eval x).cells[j]? = some u:=by rw [←Array.getElem?_toList];exact hj
   have hlt:j<y.cells.length:=by rw [←hc];exact (Array.getElem?_eq_some_iff.1 hj').1
   exact (hcc j _ u (List.getElem?_eq_getElem hlt) hj').one (hone _ (List.getElem_mem hlt))
  have hrun0:=run_storeCells_cells (P:=P) b 0 us 0 w (fun j hj=>by
    obtain ⟨u,hu⟩:=h.tags.ex b j (by rw [ht j (by omega)];simp)
    simp only [Nat.add_zero,Nat.zero_add];rw [hu];rfl) (fun j hj=>by simpa using h.tags.tail _ _ _ (ht j (by omega))) huone
  simp only [Nat.add_zero] at hrun0
  let W:=w.setCells b 0 us
  let G':Gh:={ G with tag:=fun b' o=>if b'=b∧o<k then .fix else G.tag b' o }
  have htag:∀b' o,G.tag b' o≠.tail (.slot d r)→G'.tag b' o=G.tag b' o:=fun b' o hb=>by
   simp only [G']
   rw [if_neg]
   rintro ⟨rfl,ho⟩
   exact hb (ht o ho)
  have hout:∀b' o,¬(b'=b∧o<k)→W.cell? ⟨b',o,none⟩=w.cell? ⟨b',o,none⟩:=fun b' o hn =>
   World.cell?_setCells_out _ us 0 w ⟨b',o,none⟩ (fun hb _=>by
    simp only at hb ⊢
    exact .inr (Nat.le_of_not_lt fun h''=>hn ⟨hb,by omega⟩))
  have hcell:∀b' o,G.tag b' o≠.tail (.slot d r)→W.cell? ⟨b',o,none⟩=w.cell? ⟨b',o,none⟩:=fun b' o hb=>hout b' o (fun hn=>hb (by rw [hn.1];exact ht o hn.2))
  have hnb:∀i,i<G.n→G.blk i≠b:=Jr h.heap h.tags (ht 0 hk0)
  have hheap:∀b',b'≠b→W.heap[b']? = w.heap[b']? := fun b' hb=>Cc _ _ _ _ _ hb
  have hsize:W.heap.size=w.heap.size:=Cb _ _ _ _
  have hstill:Still G w G' W:=Still.tags (fun b' hb'=>hheap b' (fun e=>Gx (ht 0 hk0) (e ▸ hb'))) (Nat.le_of_eq hsize.symm) (fun b' o _=>by
   by_cases hc:b'=b∧o<k
   ·exact .inr ⟨_,by rw [hc.1];exact ht o hc.2⟩
   exact .inl (by simp only [G'];rw [if_neg hc])) (fun i hi=>.inl ⟨hi,rfl⟩)
  have hfix:∀b' o,G.tag b' o=.fix→G'.tag b' o=.fix∧W.cell? ⟨b',o,none⟩=w.cell? ⟨b',o,none⟩:=fun b' o hb=>⟨by rw [htag b' o (by rw [hb];simp)];exact hb,hcell b' o (by rw [hb];simp)⟩
  have htail:∀b' o L,L≠.slot d r→G.tag b' o=.tail L→G'.tag b' o=.tail L:=fun b' o L hL hb=>by
   rw [htag b' o (by rw [hb];intro e;injection e with e;exact hL e)];exact hb
  have hobj:∀b' o i,G.tag b' o=.obj i→G'.tag b' o=.obj i:=fun b' o i hb=>by rw [htag b' o (by rw [hb];simp)];exact hb
  have hrep:∀{l:Option Loc} {z:AV} {u:Value},l≠some (.slot d r)→Rep G w l z u→Rep G' W l z u:=fun hl hz =>
   hz.mono (G':=G') hfix (Nat.le_refl _) (fun _ _=>rfl) (fun L hL b' o ht'=>htail b' o L (fun e=>hl (by rw [hL,e])) ht')
  have hkeep:Keep d G w G' W:=⟨hfix,fun b' o e s he ht'=>htail b' o _ (by rintro ⟨⟩;omega) ht',Nat.le_refl _,fun _ _=>rfl,Em _ _ _ _,Do _ _ _ _,Cx _ _ _ _,Nat.le_of_eq hsize.symm,hstill⟩
  have hvec:∀j u,us[j]? = some u→W.cell? ⟨b,j,none⟩=some u:=fun j u hu=>by
   have hj:=(List.getElem?_eq_some_iff.1 hu).1
   have hex:∃u',w.cell? ⟨b,j,none⟩=some u':=h.tags.ex b j (by rw [ht j (by omega)];simp)
   obtain ⟨u',hu'⟩:=hex
   have hbk:∃vs e fz,w.heap[b]? = some (.cells vs e fz):=by
    simp only [World.cell?] at hu'
    split at hu'
    ·rename_i vs e fz hb;exact ⟨vs,e,fz,hb⟩
    cases hu'
   obtain ⟨vs,e,fz,hbk⟩:=hbk
   have hlen:0+us.length≤vs.size:=by
    rw [hul,Nat.zero_add]
    rcases Nat.lt_or_ge vs.size k with h'|h'
    ·exfalso
     obtain ⟨u2,hu2⟩:=h.tags.ex b vs.size (by rw [ht _ h'];simp)
     simp [World.cell?,hbk] at hu2
    exact h'
   obtain ⟨vs',b1,b2,b3⟩:=Hs b e fz us 0 w vs hbk hlen
   have b3':=b3 j
   rw [if_pos (by omega)] at b3'
   show (w.setCells b 0 us).cell? ⟨b,j,none⟩=some u
   simp only [World.cell?,b1]
   rw [b3',Nat.sub_zero]
   exact hu
  have hst:StRel d G' (st.set r (.ro y.cells)) a W:=by
   refine ⟨h.size,fun s=>?_,⟨fun i z hz=>?_,h.heap.n,h.heap.inj⟩,h.defs,h.defsAt,h.defsNodup,h.defsGe,⟨fun b' o hb=>?_,fun b' o i hb=>?_,fun b' o L hb=>?_,h.tags.globKeep hstill⟩,h.rnd,h.low,h.top⟩
   ·show Rep G' W _ (A6 r (.ro y.cells) st.fr s) _
    unfold A6
    by_cases hs:s=r
    ·subst hs
     rw [if_pos rfl,hv]
     refine .ro _ _ ⟨b,0,none⟩ (fun j=>(a.eval x).cells.getD j undef) rfl hone (fun j c hj=>?_) (fun j c hj=>?_)
     all_goals
      have hlt:j<y.cells.length:=(List.getElem?_eq_some_iff.1 hj).1
      have hu:(a.eval x).cells[j]? = some ((a.eval x).cells[j]'(by omega)):=Array.getElem?_eq_getElem _
      have e1:(a.eval x).cells.getD j undef=(a.eval x).cells[j]'(by omega):=by rw [Array.getD_eq_getD_getElem?,hu];rfl
      rw [e1]
     ·refine ⟨by simp only [G',Nat.zero_add];rw [if_pos ⟨trivial,by omega⟩],?_⟩
      rw [Nat.zero_add]
      exact hvec j _ (by simp only [us];rw [Array.getElem?_toList];exact hu)
     exact hrep (by simp) (hcc j c _ hj hu)
    rw [if_neg hs]
    exact hrep (by simp;exact fun e=>hs e) (h.slots s)
   ·have hob:=h.heap.obj i z hz
    have hi:i<G.n:=by rw [h.heap.n];exact (List.getElem?_eq_some_iff.1 hz).1
    have hb:=hheap (G.blk i) (hnb i hi)
    cases z with
    | cells t cs =>
     obtain ⟨vs,a1,a2,a3,a4⟩:=hob
     exact ⟨vs,hb.trans a1,a2,fun j y u p q=>hrep (by simp) (a3 j y u p q),fun j hj=>hobj _ _ _ (a4 j hj)⟩
    | loop sta pd fr sz ps asg bd df =>
     obtain ⟨fn,tmps,a1,a2,a3,a4⟩:=hob
     exact ⟨fn,tmps,hb.trans a1,a2,fun s=>hrep (by simp) (a3 s),a4⟩
    | defs=>exact hb.trans hob
    | dead=>exact hb.trans hob
    | bld t e bs=>exact BldRel.turn hob rfl (fun b' o ho=>hobj b' o i ho) hb (fun b' ha=>hheap b' (fun e=>by
      have:=ha.tag h.tags (o:=0) (by rw [e,ht 0 hk0];simp)
      rw [e,ht 0 hk0] at this;cases this))
    | gone =>
     obtain ⟨vs,t,fz,a1,a2⟩:=hob
     exact ⟨vs,t,fz,hb.trans a1,fun j hj=>(hfix _ _ (a2 j hj)).1⟩
   ·by_cases hc:b'=b∧o<k
    ·obtain ⟨rfl,ho⟩:=hc
     exact ⟨us[o]'(by omega),hvec o _ (List.getElem?_eq_getElem _)⟩
    rw [hout b' o hc]
    simp only [G',if_neg hc] at hb
    exact h.tags.ex b' o hb
   ·rw [World.frozen?_setCells]
    simp only [G'] at hb
    split at hb
    ·cases hb
    exact h.tags.obj b' o i hb
   rw [World.frozen?_setCells]
   simp only [G'] at hb
   split at hb
   ·cases hb
   exact h.tags.tail b' o L hb
  have hrun:(execOp a.eval (⟨none,.store t (.tmp r) x,ty,pos,aft,gd⟩:Oper)).run P w=.ok .skip W:=
   En hsz (show a.eval (.tmp r)=_ from hv) (by omega) hrun0
  exact Ex (by intro c h;cases h) hrun ⟨G',_,hst,hkeep,rfl,rfl,rfl,rfl⟩
end
section
variable {P:Program} {d:Nat} {sz:Nat} {dfs:List Nat} {rnd:Option Nat} {l0:List Oper} {up own:(Nat→Bool)→List AObj} {KP:List PanicEntry→St→Prop} {E:List Oper→(Nat→AV)→Prop} {S:List SegY} {l:List Oper} {fr:Nat→AV} {ty:TypeId} {pos:String} {aft:Array Edge} {s:Nat} {T F:List Nat}
theorem Y.allocP {t:TypeId} {z:Value} {k:Nat} (hz:∀w,(zeroValue t).run P w=.ok z w) (h:ChainY P d l0 sz up own dfs rnd KP E S l (A6 s (.cellp k) fr)) (hk:z.cells.size=k:=by rfl) (hs:Nat.blt s sz=true:=by rfl):
  ChainY P d l0 sz up own dfs rnd KP E (.s [s] none T F::S) (⟨some s,.alloc t,ty,pos,aft,none⟩::l) fr:=by
 refine ⟨_,l,[(s,.cellp k)],rfl,⟨rfl,rfl,fun B f _ _ _ hf=>.of ?_⟩,h⟩
 exact AOp.allocP (st:=⟨sz,f,up B,own B,dfs,rnd⟩) hz hk (by simpa using hs)
theorem Y.storeP {t:TypeId} {x:Operand} {r k:Nat} {y:AV} {ys:List AV} (hsz:∀w,(Go.sizeOf t).run P w=.ok k w) (h:ChainY P d l0 sz up own dfs rnd KP E S l (A6 r (.ro ys) fr))
  (hf:fr r=.cellp k:=by exact sL0) (hx:Ai fr x=y:=by exact sL0) (hc:y.cells=ys:=by exact sL0)
  (hk:ys.length=k:=by rfl) (hk0:0<k:=by decide) (h1:ys.all AV.one=true:=by exact sL2):
  ChainY P d l0 sz up own dfs rnd KP E (.s [r] none T F::S) (⟨none,.store t (.tmp r) x,ty,pos,aft,none⟩::l) fr:=by
 subst hc
 refine ⟨_,l,[(r,.ro y.cells)],rfl,⟨rfl,rfl,fun B f _ _ _ hfr=>.of ?_⟩,h⟩
 have e:f r=fr r:=hfr r (by simp [lk,Qe,Op.operands])
 have ex:Ai f x=y:=by rw [agr hfr (by simp [Op.operands])];exact hx
 exact AOp.storeP (st:=⟨sz,f,up B,own B,dfs,rnd⟩) hsz (e.trans hf) ex hk hk0 h1
end
end Go.SX
