/- Texts on the way to this: MigJoins answers true for whatever it is handed: two sources of up to 1500 bytes that are migrations, one behind the other, are both, if there are not too many moves; its chapter's example is parsed and printed. (part 8) -/
import Derived.Shelf.Strings.Builder1
import Derived.Lib.ItoaLen
import Derived.Test.YtlafnblklafbkaaGreatDoorMigJoinsCardSaidPart7
set_option linter.all false
namespace Go.SX.Nb
open Go Go.SX Go.Proofs
variable [ErrAt]
set_option maxRecDepth 4000
theorem Qb {α β:Type} {f:α→β} {l:List α} {x:Nat} (h:x<l.length):(l.take (x+1)).map f=(l.take x).map f++[f l[x]]:=by
 rw [List.take_succ_eq_append_getElem h,List.map_append];rfl
def Kr {α:Type} (p:α→Bool) (l:List α):Int:=if l.any p then (l.findIdx p:Int) else -1
theorem fq {α:Type} {p:α→Bool} {l:List α} {i:Nat} (h:i<l.length) (hn:p l[i]=true) (hp:∀(j:Nat) (y:α),j<i→l[j]? = some y→p y=false):(i:Int)=Kr p l:=by
 unfold Kr
 rw [if_pos (List.any_eq_true.2 ⟨_,List.getElem_mem h,hn⟩)]
 congr 1
 refine (List.findIdx_eq h |>.2 ⟨hn,fun j hj=>?_⟩).symm
 exact hp j (l[j]'(by omega)) hj (List.getElem?_eq_getElem (by omega))
theorem Wg {α:Type} {p:α→Bool} {l:List α} (h:l.any p=false):(-1:Int)=Kr p l:=by
 unfold Kr
 rw [if_neg (by rw [h];simp)]
theorem ar {α:Type} (p:α→Bool) (l:List α):decide (0≤Kr p l)=l.any p:=by
 unfold Kr
 cases l.any p<;>simp
def Il (s:Str):Bool := !(C0 s)
def Gp (e:Expr):Bool := !(B0 e)
theorem fu {m:Mov} (h:(((m.ahead.length:Int) != (m.give.length:Int)) || ((m.back.length:Int) != (m.take.length:Int)))=true):Cs m=false:=if_pos h
theorem fw {m:Mov} (h:(((m.ahead.length:Int) != (m.give.length:Int)) || ((m.back.length:Int) != (m.take.length:Int)))=false):Cs m=if m.kind==1 then ((m.take.length:Int)==0)&&((m.give.length:Int)==1)
 else if m.kind==2 then ((m.take.length:Int)==1)&&((m.give.length:Int)==0)
 else if (m.kind==3) || (m.kind==6) then ((m.take.length:Int)==1)&&((m.give.length:Int)==1)
 else if m.kind==4 then ((m.take.length:Int)==1)&&decide ((1:Int)<(m.give.length:Int))
 else if m.kind==5 then decide ((1:Int)<(m.take.length:Int))&&((m.give.length:Int)==1)
 else false:=if_neg (by rw [h];simp)
theorem c66 (m:Mov) (Hp:List AObj):AFun Tryz.prog 66 [Eg m] Hp (B2 (Cs m)):=by
 refine ACall.body [.tmp 2] [0] Tryz.func66 Tryz.ntmps66 (fun d=>?_)
 refine Z70 ?_;refine W.drawQ [0,1,3,0,8,24,7,127] 7 Aa (by kernel_rfl) ?_;refine Z90 ?_;refine Z30 ?_;refine D.tail ?_;refine R.go ?_;refine R.fin [1,3,4] ?_;refine Z50 ?_
 simp only [List.length_map]
 refine Z53 ?_;refine Z34 ?_;refine Z59 ?_;refine R.fin [1,3,4,22] ?_
 refine W.cond (fun ht22=>?_) (fun ht22=>?_)
 ·simp only [List.length_map] at ht22
  have hm:=fu ht22
  refine Z40 ?_;refine K.thR ?_;exact K.fin (V.one V.tmp) ⟨by rw [hm],rfl⟩
 simp only [List.length_map] at ht22
 have hn:=fw ht22
 refine Z6 ?_;refine Z11 ?_;refine R.fin [3,4,24] ?_;refine Z64 ?_;refine R.fin [3,4,24,25] ?_
 refine W.cond (fun ht25=>?_) (fun ht25=>?_)
 ·refine Ss ?_;refine V8 ?_;exact K.fin (V.one V.tmp) ⟨by rw [hn];first|(simp only [ht22,ht25,hk3,hk6,Bool.true_or,Bool.false_or,Bool.or_true,Bool.or_false,if_true,if_false,Bool.false_eq_true,↓reduceIte]<;>rfl)|(simp only [ht22,ht25,hk3,Bool.true_or,Bool.false_or,Bool.or_true,if_true,if_false,Bool.false_eq_true,↓reduceIte]<;>rfl)|(simp only [ht22,ht25,if_true,if_false,Bool.false_eq_true,↓reduceIte]<;>rfl),rfl⟩
 refine Z1 ?_;refine R.fin [3,4,24,33] ?_
 refine W.cond (fun ht33=>?_) (fun ht33=>?_)
 ·refine Ss ?_;refine V8 ?_;exact K.fin (V.one V.tmp) ⟨by rw [hn];first|(simp only [ht22,ht25,ht33,hk3,hk6,Bool.true_or,Bool.false_or,Bool.or_true,Bool.or_false,if_true,if_false,Bool.false_eq_true,↓reduceIte]<;>rfl)|(simp only [ht22,ht25,ht33,hk3,Bool.true_or,Bool.false_or,Bool.or_true,if_true,if_false,Bool.false_eq_true,↓reduceIte]<;>rfl)|(simp only [ht22,ht25,ht33,if_true,if_false,Bool.false_eq_true,↓reduceIte]<;>rfl),rfl⟩
 refine Z11 ?_;refine R.fin [3,4,24,41] ?_
 refine W.cond (fun ht41=>?_) (fun ht41=>?_)
 ·have hk3:=ht41
  refine Z6 ?_
  refine W.cond (fun ht41=>?_) (fun ht41=>?_)
  ·refine Ss ?_;refine Z35 ?_;exact Z23
  rw [hk3] at ht41;cases ht41
 have hk3:=ht41
 refine Z17 ?_;refine R.fin [3,4,24,41] ?_;refine K.thN ?_
 refine W.cond (fun ht41=>?_) (fun ht41=>?_)
 ·have hk6:=ht41
  refine Ss ?_;refine Z35 ?_;exact Z23
 have hk6:=ht41
 refine Z1 ?_;refine R.fin [3,4,24,50] ?_
 refine W.cond (fun ht50=>?_) (fun ht50=>?_)
 ·refine Ss ?_;refine V8 ?_;exact K.fin (V.one V.tmp) ⟨by rw [hn];first|(simp only [ht22,ht25,ht33,ht41,ht41,ht50,hk3,hk6,Bool.true_or,Bool.false_or,Bool.or_true,Bool.or_false,if_true,if_false,Bool.false_eq_true,↓reduceIte]<;>rfl)|(simp only [ht22,ht25,ht33,ht41,ht41,ht50,hk3,Bool.true_or,Bool.false_or,Bool.or_true,if_true,if_false,Bool.false_eq_true,↓reduceIte]<;>rfl)|(simp only [ht22,ht25,ht33,ht41,ht41,ht50,if_true,if_false,Bool.false_eq_true,↓reduceIte]<;>rfl),rfl⟩
 refine Z1 ?_;refine R.fin [3,4,58] ?_
 refine W.cond (fun ht58=>?_) (fun ht58=>?_)
 ·refine Ss ?_;refine V8 ?_;exact pl
 refine V9 ?_;exact pl

theorem c72 (s:Str) (hs:s.length≤1048576) (Hp:List AObj):AFun Tryz.prog 72 [A8 s] Hp (B2 (Il s)):=by
 refine ACall.body [.tmp 2] [0] Tryz.func72 Tryz.ntmps72 (fun d=>?_)
 refine Z56 ?_;refine Z2 ?_;refine R.call Tryz.call67 (c67 s hs _) ?_;exact Z76

theorem c69 (e:Expr) (hok:okE 61 e) (Hp:List AObj):AFun Tryz.prog 69 [A6 e] Hp (B2 (Gp e)):=by
 refine ACall.body [.tmp 2] [0] Tryz.func69 Tryz.ntmps69 (fun d=>?_)
 refine Z70 ?_;refine Z2 ?_;refine R.call Tryz.call70 (c70 61 e hok (by decide) _) ?_;exact Z76

theorem sw (l:List Str) (hl:l.length≤1048576) (hn:∀s∈l,s.length≤1048576) (Hp:List AObj):AFun Tryz.prog 108 [Ft l,.fn (.func 72) [] []] Hp (A5 (Kr Il l)):=by
 refine ACall.body [.tmp 4] [0,1] Tryz.func108 Tryz.ntmps108 (fun d=>?_)
 refine Z47 ?_;refine Z48 ?_;refine R.fin [0,1,7,8] ?_
 refine AW.loopC (α:=Nat) (fun x=>⟨19,A7 0 (Ft l) (A7 1 (.fn (.func 72) [] []) (A7 7 (A5 l.length) (A7 8 (A5 (x:Nat)) (fun _=>.any)))),Hp,[],[],none⟩) (fun x=>x≤l.length∧∀(j:Nat) y,j<x→l[j]? = some y→Il y=false) (fun x=>l.length-x) (0) ⟨Nat.zero_le _,fun j y h=>by omega⟩ (StLe.of_eq (by simp)) rfl (fun x hx=>?_)
 refine Z2 ?_;refine R.fin [0,1,7,8,9] ?_
 refine W.condX (fun ht9=>?_) (fun ht9=>?_)
 ·have hlt:x<l.length:=by simpa using ht9
  refine Z20 ?_;refine Z1 ?_;refine R.fin [0,1,5,7,8] ?_;refine Z18 ?_
  refine R.go (h:=Q.indexAddr (x) (A8 l[x]) (fun _=>C6 hlt)) (hr:=?_)
  refine R.go ?_;refine R.callV Tryz.call72 (c72 l[x] (hn _ (List.getElem_mem hlt)) _) ?_;refine R.fin [0,1,5,7,8,16] ?_
  refine W.cond (fun ht16=>?_) (fun ht16=>?_)
  ·refine Z1 ?_;refine Z14 ?_;exact Z68
  refine Vb ?_;exact Z54
 have hxe:l.length≤x:=by simpa using ht9
 refine Z33 ?_;exact Z63

theorem c71 (l:List Str) (hl:l.length≤1048576) (hn:∀s∈l,s.length≤1048576) (Hp:List AObj):AFun Tryz.prog 71 [Ft l,.fn (.func 72) [] []] Hp (B2 (l.any Il)):=by
 refine ACall.body [.tmp 4] [0,1] Tryz.func71 Tryz.ntmps71 (fun d=>?_)
 refine Z47 ?_;refine Z1 ?_;refine R.call Tryz.call108 (sw l hl hn _) ?_;refine Z0 ?_;exact Z72

theorem ql (l:List Expr) (hl:l.length≤1048576) (hn:∀e∈l,okE 61 e) (Hp:List AObj):AFun Tryz.prog 109 [Jp l,.fn (.func 69) [] []] Hp (A5 (Kr Gp l)):=by
 refine ACall.body [.tmp 4] [0,1] Tryz.func109 Tryz.ntmps109 (fun d=>?_)
 refine Z47 ?_;refine Z48 ?_;refine R.fin [0,1,7,8] ?_
 refine AW.loopC (α:=Nat) (fun x=>⟨19,A7 0 (Jp l) (A7 1 (.fn (.func 69) [] []) (A7 7 (A5 l.length) (A7 8 (A5 (x:Nat)) (fun _=>.any)))),Hp,[],[],none⟩) (fun x=>x≤l.length∧∀(j:Nat) y,j<x→l[j]? = some y→Gp y=false) (fun x=>l.length-x) (0) ⟨Nat.zero_le _,fun j y h=>by omega⟩ (StLe.of_eq (by simp)) rfl (fun x hx=>?_)
 refine Z2 ?_;refine R.fin [0,1,7,8,9] ?_
 refine W.condX (fun ht9=>?_) (fun ht9=>?_)
 ·have hlt:x<l.length:=by simpa using ht9
  refine Z20 ?_;refine Z1 ?_;refine R.fin [0,1,5,7,8] ?_;refine Z18 ?_
  refine R.go (h:=Q.indexAddr (x) (A6 l[x]) (fun _=>C6 hlt)) (hr:=?_)
  refine R.go ?_;refine R.callV Tryz.call69 (c69 l[x] (hn _ (List.getElem_mem hlt)) _) ?_;refine R.fin [0,1,5,7,8,16] ?_
  refine W.cond (fun ht16=>?_) (fun ht16=>?_)
  ·refine Z1 ?_;refine Z14 ?_;exact Z68
  refine Vb ?_;exact Z54
 have hxe:l.length≤x:=by simpa using ht9
 refine Z33 ?_;exact Z63

theorem ly (l:List Expr) (hl:l.length≤1048576) (hn:∀e∈l,okE 61 e) (Hp:List AObj):AFun Tryz.prog 73 [Jp l,.fn (.func 69) [] []] Hp (B2 (l.any Gp)):=by
 refine ACall.body [.tmp 4] [0,1] Tryz.func73 Tryz.ntmps73 (fun d=>?_)
 refine Z47 ?_;refine Z1 ?_;refine R.call Tryz.call109 (ql l hl hn _) ?_;refine Z0 ?_;exact Z72

theorem c75 (s:Str) (Hp:List AObj):AFun Tryz.prog 75 [A8 s] Hp (A6 (Bk s)):=by
 refine ACall.body [.cell 2 69] [0] Tryz.func75 Tryz.ntmps75 (fun d=>?_)
 refine Z32 ?_;refine Z2 ?_;refine oc ?_;refine R.nilCell 0 5 6 ?_;refine Z3 ?_;exact K.fin (V.one (V.cellN jA jS)) ⟨by rw [A9];rfl,rfl⟩

theorem U6 {m:Mov} {c:Col}:(((!(C0 c.name)) || (!((Ax c.kind==[])==(m.kind==3)))) || ((m.kind==3)&&(c.kind != 0))) = !Ih m c:=by
 unfold Ih
 cases C0 c.name<;>cases (Ax c.kind==([]:Str))<;>cases (m.kind==3)<;>cases (c.kind != 0)<;>rfl
theorem nd {m:Mov} (h:(!(Cs m))=true):Fw m=false:=by
 have:Cs m=false:=by simpa using h
 unfold Fw;rw [this];rfl
theorem nf {m:Mov} {c:Col} (hc:c∈m.give) (h:Ih m c=false):Fw m=false:=by
 have:m.give.all (Ih m)=false:=List.all_eq_false.2 ⟨c,hc,by rw [h];simp⟩
 unfold Fw;rw [this];simp
theorem ng {m:Mov} (h:((m.take.any Il || m.ahead.any Gp) || m.back.any Gp)=true):Fw m=false:=by
 unfold Fw
 rw [show Il=fun s => !(C0 s) from rfl,show Gp=fun e => !(B0 e) from rfl,Gc,Gc,Gc] at h
 cases h1:m.take.all C0<;>cases h2:m.ahead.all B0<;>cases h3:m.back.all B0<;>simp_all
theorem kz {m:Mov} (h1:Cs m=true) (h2:m.give.all (Ih m)=true) (h:((m.take.any Il || m.ahead.any Gp) || m.back.any Gp)=false):Fw m=Ep m:=by
 unfold Fw
 rw [show Il=fun s => !(C0 s) from rfl,show Gp=fun e => !(B0 e) from rfl,Gc,Gc,Gc] at h
 rw [h1,h2]
 cases h1:m.take.all C0<;>cases h2:m.ahead.all B0<;>cases h3:m.back.all B0<;>simp_all
theorem Ma {α β:Type} {f:α→β} {l:List α} {d:α} (h:0<l.length):(l.map f)[0]? = some (f (l.getD 0 d)):=by
 rw [List.getElem?_map,List.getElem?_eq_getElem h,List.getD_eq_getElem?_getD,List.getElem?_eq_getElem h]
 rfl
theorem Ks {α:Type} {l:List α} {d:α} (h:0<l.length):l.getD 0 d∈l:=by
 rw [List.getD_eq_getElem?_getD,List.getElem?_eq_getElem h]
 exact List.getElem_mem h
theorem nh {m:Mov} (h:(m.kind==3)=true):Ep m=(eqE (m.ahead.getD 0 Ae) (Bk (m.take.getD 0 []))&&eqE (m.back.getD 0 Ae) (Bk (m.give.getD 0 ⟨[],0⟩).name)):=if_pos h
theorem ni {m:Mov} (h:(m.kind==3)=false) (h6:(m.kind==6)=true):Ep m=(m.take.getD 0 []==(m.give.getD 0 ⟨[],0⟩).name):=by unfold Ep;rw [if_neg (by rw [h];simp),if_pos h6]
theorem nj {m:Mov} (h:(m.kind==3)=false) (h6:(m.kind==6)=false):Ep m=true:=by unfold Ep;rw [if_neg (by rw [h];simp),if_neg (by rw [h6];simp)]
theorem c36 (m:Mov) (h:OkMov m) (Hp:List AObj):AFun Tryz.prog 36 [Eg m] Hp (B2 (Fw m)):=by
 refine ACall.body [.tmp 2] [0] Tryz.func36 Tryz.ntmps36 (fun d=>?_)
 refine Z70 ?_;refine Z42 ?_;refine R.call Tryz.call66 (c66 m _) ?_;refine R.go ?_;refine R.fin [1,8] ?_
 refine W.cond (fun ht8=>?_) (fun ht8=>?_)
 ·have hm:=nd ht8
  refine Z40 ?_;exact Z22
 have hct:Cs m=true:=by simpa using ht8
 refine Z6 ?_;refine Z58 ?_;refine R.fin [1,10,11,12] ?_
 refine AW.loopC (α:=Nat) (fun x=>⟨95,A7 1 (.ro (Mi m)) (A7 10 (lu m.give) (A7 11 (A5 (m.give.length:Nat)) (A7 12 (A5 (x:Nat)) (fun _=>.any)))),Hp,[],[],none⟩) (fun x=>x≤m.give.length∧∀(j:Nat) (y:Col),j<x→m.give[j]? = some y→(!Ih m y)=false) (fun x=>m.give.length-x) (0) ⟨Nat.zero_le _,fun j y h=>by omega⟩ (StLe.of_eq (by simp)) rfl (fun x hx=>?_)
 refine Z2 ?_;refine R.fin [1,10,11,12,13] ?_
 refine W.condX (fun ht13=>?_) (fun ht13=>?_)
 ·have hlt:x<m.give.length:=by simpa using ht13
  have hgl:=h.gives2
  refine db ?_
  refine R.go (h:=Q.indexAddr (x) (Bt m.give[x]) (fun _=>C6 hlt)) (hr:=?_)
  refine R.go ?_;refine Z10 ?_;refine R.fin [1,4,10,11,12] ?_;refine W.drawQ [0,1,3,7,15,31,63,127,255,31,543,1567,4095,8191,16383,32767,65535,131071,262143,524287,1048575,2097151,4194303,8388607] 12 Aa (by kernel_rfl) ?_;refine Z5 ?_;refine D.call Tryz.call67 (c67 m.give[x].name (h.gives.2 _ (List.getElem_mem hlt)) _) ?_;refine Z5 ?_;refine Z74 ?_;refine H.call Tryz.call68 (fun hB=>c68 m.give[x].kind _) ?_;refine Z74 ?_;refine Z74 ?_;refine D.tail ?_;refine Z69 ?_;refine Z4 ?_;refine Z4 ?_;refine R.go ?_;refine R.fin [1,10,11,12,39] ?_
  refine W.cond (fun ht39=>?_) (fun ht39=>?_)
  ·rw [U6] at ht39
   have hm:=nf (List.getElem_mem hlt) (by simpa using ht39)
   refine Z40 ?_;exact Z99
  rw [U6] at ht39
  refine Vb ?_;refine R.fin [1,10,11,12] ?_;refine K.lpN (x+1) ⟨hlt,Gt hlt hx.2 ht39⟩ (by omega) ?_
  exact StCut.take (own:=[]) (fun _=>.refl _) (by repeat (first|exact Da|refine D9 (by first|(simp [or_imp,forall_and];done)|exact aq|exact low_ro.2 Rv) ?_)) (by simp) (by simp)
 have hxe:m.give.length≤x:=by simpa using ht13
 have hga:m.give.all (Ih m)=true:=by have:=U4 hxe hx.2;rw [Gc] at this;simpa using this
 refine Z33 ?_;refine Z2 ?_;refine R.fin [1,5] ?_;refine Z11 ?_;refine R.call Tryz.call71 (c71 m.take h.takes h.names _) ?_;refine R.go ?_;refine Z4 ?_;refine G.go ?_;refine G.call Tryz.call73 (fun hB=>ly m.ahead h.ahead.len h.ahead.ok _) ?_;refine Z19 ?_;refine G.go ?_;refine G.call Tryz.call73 (fun hB=>ly m.back h.back.len h.back.ok _) ?_;refine R.go ?_;refine R.fin [1,55] ?_
 refine W.cond (fun ht55=>?_) (fun ht55=>?_)
 ·have hm:=ng ht55
  refine Z40 ?_;exact Z22
 have hm0:=kz hct hga ht55
 refine Z6 ?_;refine Z11 ?_;refine R.fin [1,57] ?_;refine Z64 ?_;refine R.fin [1,57,58] ?_
 refine W.cond (fun ht58=>?_) (fun ht58=>?_)
 ·obtain ⟨hl1,hl2⟩:=Od hct (by rw [ht58];simp)
  obtain ⟨hl3,hl4⟩:=Fx hct
  have g1:=Ma (f:=A6) (l:=m.ahead) (d:=Ae) (by omega)
  have g2:=Ma (f:=A6) (l:=m.back) (d:=Ae) (by omega)
  have g3:=Ma (f:=A8) (l:=m.take) (d:=[]) (by omega)
  have g4:=Ma (f:=Bt) (l:=m.give) (d:=⟨[],0⟩) (by omega)
  have ok1:=h.ahead.ok _ (Ks (l:=m.ahead) (d:=Ae) (by omega))
  have ok2:=h.back.ok _ (Ks (l:=m.back) (d:=Ae) (by omega))
  have hm:=hm0.trans (nh ht58)
  refine W.drawQ [0,1,3,7,0,16,48,112,240,511,1023,2047,4095,8191,16383,2047,34815,100351,231423,493567,1017855,2097151,4194303,8388607] 21 Aa (by kernel_rfl) ?_;refine Z5 ?_
  refine D.go (h:=Q.indexAddr (0) (A6 (m.ahead.getD 0 Ae)) (fun _=>g1)) (hr:=?_)
  refine Z30 ?_
  refine D.go (h:=Q.indexAddr (0) (A8 (m.take.getD 0 [])) (fun _=>g3)) (hr:=?_)
  refine D.go ?_;refine D.call Tryz.call75 (c75 (m.take.getD 0 []) _) ?_;refine D.call Tryz.call74 (c74 61 (m.ahead.getD 0 Ae) ok1 (Bk (m.take.getD 0 [])) _) ?_;refine D.go ?_;refine Z74 ?_
  refine H.go (h:=Q.indexAddr (0) (A6 (m.back.getD 0 Ae)) (fun _=>g2)) (hr:=?_)
  refine Z74 ?_;refine H.go ?_
  refine H.go (h:=Q.indexAddr (0) (Bt (m.give.getD 0 ⟨[],0⟩)) (fun _=>g4)) (hr:=?_)
  refine Z74 ?_;refine H.call Tryz.call75 (fun hB=>c75 (m.give.getD 0 ⟨[],0⟩).name _) ?_;refine D.tail ?_;refine G.call Tryz.call74 (fun hB=>c74 61 (m.back.getD 0 Ae) ok2 (Bk (m.give.getD 0 ⟨[],0⟩).name) _) ?_;exact oe
 refine Z1 ?_;refine R.fin [1,83] ?_
 refine W.cond (fun ht83=>?_) (fun ht83=>?_)
 ·obtain ⟨hl1,hl2⟩:=Od hct (by rw [ht83];simp)
  obtain ⟨hl3,hl4⟩:=Fx hct
  have g1:=Ma (f:=A6) (l:=m.ahead) (d:=Ae) (by omega)
  have g2:=Ma (f:=A6) (l:=m.back) (d:=Ae) (by omega)
  have g3:=Ma (f:=A8) (l:=m.take) (d:=[]) (by omega)
  have g4:=Ma (f:=Bt) (l:=m.give) (d:=⟨[],0⟩) (by omega)
  have ok1:=h.ahead.ok _ (Ks (l:=m.ahead) (d:=Ae) (by omega))
  have ok2:=h.back.ok _ (Ks (l:=m.back) (d:=Ae) (by omega))
  have hm:=hm0.trans (ni ht58 ht83)
  refine W.drawQ [0,1,3,7,0,16,48,112,240,511,1023] 9 Aa (by kernel_rfl) ?_;refine Z5 ?_
  refine D.go (h:=Q.indexAddr (0) (A8 (m.take.getD 0 [])) (fun _=>g3)) (hr:=?_)
  refine Z30 ?_
  refine D.go (h:=Q.indexAddr (0) (Bt (m.give.getD 0 ⟨[],0⟩)) (fun _=>g4)) (hr:=?_)
  refine Z5 ?_;refine D.tail ?_;exact oe
 have hm:=hm0.trans (nj ht58 ht83)
 refine V9 ?_;exact dg

def au (m:Mov):Bool := !(Fw m)
theorem l3 (l:List Mov):(decide ((l.length:Int)≤8) && !(l.any au))=Rr l:=by
 unfold Rr
 rw [show au=fun m => !(Fw m) from rfl,Gc]
 simp
theorem c35 (m:Mov) (h:OkMov m) (Hp:List AObj):AFun Tryz.prog 35 [Eg m] Hp (B2 (au m)):=by
 refine ACall.body [.tmp 2] [0] Tryz.func35 Tryz.ntmps35 (fun d=>?_)
 refine Z70 ?_;refine Z2 ?_;refine R.call Tryz.call36 (c36 m h _) ?_;exact Z76

theorem c65 (l:List Mov) (h:OkMovs l) (Hp:List AObj):AFun Tryz.prog 65 [E8 l,.fn (.func 35) [] []] Hp (A5 (Kr au l)):=by
 refine ACall.body [.tmp 4] [0,1] Tryz.func65 Tryz.ntmps65 (fun d=>?_)
 refine Z47 ?_;refine Z48 ?_;refine R.fin [0,1,7,8] ?_
 refine AW.loopC (α:=Nat) (fun x=>⟨19,A7 0 (E8 l) (A7 1 (.fn (.func 35) [] []) (A7 7 (A5 l.length) (A7 8 (A5 (x:Nat)) (fun _=>.any)))),Hp,[],[],none⟩) (fun x=>x≤l.length∧∀(j:Nat) (y:Mov),j<x→l[j]? = some y→au y=false) (fun x=>l.length-x) (0) ⟨Nat.zero_le _,fun j y h=>by omega⟩ (StLe.of_eq (by simp)) rfl (fun x hx=>?_)
 refine Z2 ?_;refine R.fin [0,1,7,8,9] ?_
 refine W.condX (fun ht9=>?_) (fun ht9=>?_)
 ·have hlt:x<l.length:=by simpa using ht9
  have hlen:=h.len
  refine Z20 ?_;refine Z1 ?_;refine R.fin [0,1,5,7,8] ?_;refine Z18 ?_
  refine R.go (h:=Q.indexAddr (x) (Eg l[x]) (fun _=>C6 hlt)) (hr:=?_)
  refine R.go ?_;refine R.callV Tryz.call35 (c35 l[x] (h.each _ (List.getElem_mem hlt)) _) ?_;refine R.fin [0,1,5,7,8,16] ?_
  refine W.cond (fun ht16=>?_) (fun ht16=>?_)
  ·refine Z1 ?_;refine Z14 ?_;exact Z68
  refine Vb ?_;exact Z54
 have hxe:l.length≤x:=by simpa using ht9
 refine Z33 ?_;exact Z63

theorem c34 (l:List Mov) (h:OkMovs l) (Hp:List AObj):AFun Tryz.prog 34 [E8 l,.fn (.func 35) [] []] Hp (B2 (l.any au)):=by
 refine ACall.body [.tmp 4] [0,1] Tryz.func34 Tryz.ntmps34 (fun d=>?_)
 refine Z47 ?_;refine Z1 ?_;refine R.call Tryz.call65 (c65 l h _) ?_;refine Z0 ?_;exact Z72

theorem c14 (l:List Mov) (h:OkMovs l) (Hp:List AObj):AFun Tryz.prog 14 [E8 l] Hp (B2 (Rr l)):=by
 refine ACall.body [.tmp 2] [0] Tryz.func14 Tryz.ntmps14 (fun d=>?_)
 refine Z56 ?_;refine Z27 ?_;refine G.go ?_;refine G.call Tryz.call34 (fun hB=>c34 l h _) ?_;refine G.go ?_;refine Z35 ?_;exact K.fin (V.one V.tmp) ⟨by rw [←l3,List.length_map],rfl⟩

/-! The columns on the way through moves. -/
theorem Qc {n k:Nat} {o:Bool} {l:List Str}:Low n (.slice o k (l.map A8)):=by simp [or_imp,forall_and]
theorem Wh {n k:Nat} {o:Bool} {a:List Expr} {e:Expr}:Low n (.slice o k (a.map A6++[A6 e])):=low_slice.2 fun y hy=>by
 rcases List.mem_append.1 hy with h|h
 ·obtain ⟨m,_,rfl⟩:=List.mem_map.1 h
  exact Ad _ _
 rw [List.mem_singleton.1 h]
 exact Ad _ _
theorem Om {n k:Nat} {o:Bool} {a:List Expr}:Low n (.slice o k (a.map A6)):=low_slice.2 fun y hy=>by
 obtain ⟨m,_,rfl⟩:=List.mem_map.1 hy
 exact Ad _ _
/-! fuse: trees in columns' places. -/
mutual
def putF (c:List Col) (l:List Expr):Expr→Option Expr
 | .mk o t v k=>if o==2 then (if X3 t c<0 then none else some (l.getD (X3 t c).toNat Ae)) else (lz c l k).map fun k'=>.mk o t v k'
def lz (c:List Col) (l:List Expr):List Expr→Option (List Expr)
  | []=>some []
  | e::r=>match putF c l e with
    | none=>none
    | some y=>(lz c l r).map fun s=>y::s
 end
theorem Hu {k:List Expr} {i:Nat} (h:i<k.length):(k.map A6)[i]? = some (A6 (k.getD i Ae))∧k.getD i Ae∈k∧∀(f:Expr→Rs) (d:Rs),(k.map f).getD i d=f (k.getD i Ae):=by
 have e:k.getD i Ae=k[i]:=by rw [List.getD_eq_getElem?_getD,List.getElem?_eq_getElem h];rfl
 rw [e]
 refine ⟨by simp [h],List.getElem_mem h,fun f d=>?_⟩
 rw [List.getD_eq_getElem?_getD,List.getElem?_map,List.getElem?_eq_getElem h]
 rfl
theorem fx {e:Expr} (h:Bj e=true):(e.op=5→e.kids.length=2)∧(e.op=3∨e.op=4→e.kids.length=1)∧(e.op=6→Az e.text=(e.kids.length:Int))∧(e.op=1∨e.op=2∨e.op=3∨e.op=4∨e.op=5∨e.op=6):=by
 cases Jo h with
 | val v hp h0=>simp [F4,Expr.op]
 | name t ht=>simp [Bk,Expr.op]
 | neg a=>simp [Cc,Expr.op,Expr.kids]
 | no a=>simp [Cc,Expr.op,Expr.kids]
 | bin t a b ht=>simp [Cp,Expr.op,Expr.kids]
 | call t k ht=>simpa [Expr.op,Expr.kids,Expr.text] using ht
def Jt (s:Str):Int:=if s==[111,114] then 0 else if s==[97,110,100] then 1 else if (((((s==[61]) || (s==[33,61])) || (s==[60])) || (s==[60,61])) || (s==[62])) || (s==[62,61]) then 3 else if ((s==[43]) || (s==[45])) || (s==[38]) then 4 else if ((s==[42]) || (s==[47])) || (s==[37]) then 5 else 7
theorem av (s:Str):Jt s=if 0≤Ag s then Ag s else 7:=by
 by_cases hf:s∈levels.flatten
 ·have h3:(levels.flatten.all fun s=>decide (Jt s=if 0≤Ag s then Ag s else 7))=true:=by kernel_rfl
  exact of_decide_eq_true (List.all_eq_true.1 h3 s hf)
 have hn:=hf
 have h:Ag s = -1:=by
  rcases G9 s with h|⟨h,_⟩
  ·exact absurd h hf
  exact h
 rw [h]
 simp only [levels,List.flatten_cons,List.flatten_nil,List.append_nil,List.cons_append,List.nil_append,List.mem_cons,List.not_mem_nil,or_false,not_or] at hn
 obtain ⟨a1,a2,a3,a4,a5,a6,a7,a8,a9,b1,b2,b3,b4,b5⟩:=hn
 simp [Jt, *]
/-- The level of a node. -/
def Wi (e:Expr):Int:=if e.op==4 then 2 else if e.op==3 then 6 else if e.op==5 then Jt e.text else 7
theorem Xw {e:Expr} (h:Bj e=true):Wi e=(levE e:Int):=by
 unfold Wi levE
 split
 ·rfl
 split
 ·rfl
 split
 ·rename_i h5
  have hb:0≤Ag e.text:=by
   have h5':e.op=5:=by simpa using h5
   rw [F5] at h
   unfold Ki at h
   simp [h5'] at h
   exact h.2.1
  rw [av,if_pos hb]
  omega
 rfl
theorem sx (s:Str) (Hp:List AObj):AFun Tryz.prog 199 [A8 s] Hp (A5 (Jt s)):=by
 refine ACall.body [.tmp 2] [0] Tryz.func199 Tryz.ntmps199 (fun d=>?_)
 refine Z56 ?_;refine Z42 ?_;refine R.fin [3] ?_;refine Z64 ?_;refine R.fin [3,4] ?_
 refine W.cond (fun ht4=>?_) (fun ht4=>?_)
 ·exact cz
 refine Z1 ?_;refine R.fin [3,6] ?_
 refine W.cond (fun ht6=>?_) (fun ht6=>?_)
 ·exact cz
 refine W.join ⟨23,A7 3 (A8 s) (A7 8 (B2 ((((((s==[61]) || (s==[33,61])) || (s==[60])) || (s==[60,61])) || (s==[62])) || (s==[62,61]))) (fun _=>.any)),Hp,[],[],none⟩ ?_ ?_
 ·refine d9 ?_
  refine W.cond (fun ht8=>?_) (fun ht8=>?_)
  ·exact Z84
  refine d9 ?_
  refine W.cond (fun ht8=>?_) (fun ht8=>?_)
  ·exact Z84
  refine d9 ?_
  refine W.cond (fun ht8=>?_) (fun ht8=>?_)
  ·exact Z84
  refine d9 ?_
  refine W.cond (fun ht8=>?_) (fun ht8=>?_)
  ·exact Z84
  refine d9 ?_
  refine W.cond (fun ht8=>?_) (fun ht8=>?_)
  ·exact Z84
  refine Z17 ?_;refine R.fin [3,8] ?_;exact Z26
 refine W.cond (fun ht8=>?_) (fun ht8=>?_)
 ·exact cz
 refine W.join ⟨23,A7 3 (A8 s) (A7 15 (B2 (((s==[43]) || (s==[45])) || (s==[38]))) (fun _=>.any)),Hp,[],[],none⟩ ?_ ?_
 ·refine Z1 ?_;refine R.fin [3,15] ?_
  refine W.cond (fun ht15=>?_) (fun ht15=>?_)
  ·refine W.keep [3,15] ?_;exact Z61
  refine Z1 ?_;refine R.fin [3,15] ?_
  refine W.cond (fun ht15=>?_) (fun ht15=>?_)
  ·refine W.keep [3,15] ?_;exact Z61
  refine Z17 ?_;refine R.fin [3,15] ?_;exact Z26
 refine W.cond (fun ht15=>?_) (fun ht15=>?_)
 ·exact cz
 refine W.join ⟨23,A7 19 (B2 (((s==[42]) || (s==[47])) || (s==[37]))) (fun _=>.any),Hp,[],[],none⟩ ?_ ?_
 ·refine Z1 ?_;refine R.fin [3,19] ?_
  refine W.cond (fun ht19=>?_) (fun ht19=>?_)
  ·refine W.keep [19] ?_;exact Z61
  refine Z1 ?_;refine R.fin [3,19] ?_
  refine W.cond (fun ht19=>?_) (fun ht19=>?_)
  ·refine W.keep [19] ?_;exact Z61
  refine Z17 ?_;refine R.fin [19] ?_;exact Z26
 refine W.cond (fun ht19=>?_) (fun ht19=>?_)
 ·exact cz
 refine V9 ?_;exact K.fin (V.one V.tmp) ⟨by simp_all [Jt],rfl⟩

theorem qm (e:Expr) (Hp:List AObj):AFun Tryz.prog 169 [A6 e] Hp (A5 (Wi e)):=by
 refine ACall.body [.tmp 2] [0] Tryz.func169 Tryz.ntmps169 (fun d=>?_)
 refine Z70 ?_;refine Z11 ?_;refine R.fin [1,4] ?_;refine Z64 ?_;refine R.fin [1,4,5] ?_
 refine W.cond (fun ht5=>?_) (fun ht5=>?_)
 ·refine Z40 ?_;exact Z78
 refine Z1 ?_;refine R.fin [1,4,7] ?_
 refine W.cond (fun ht7=>?_) (fun ht7=>?_)
 ·refine Z40 ?_;exact Z78
 refine Z1 ?_;refine R.fin [1,9] ?_
 refine W.cond (fun ht9=>?_) (fun ht9=>?_)
 ·refine Z1 ?_;refine R.call Tryz.call199 (sx e.text _) ?_;refine R.go ?_;refine Z3 ?_;exact Z78
 refine V9 ?_;exact K.fin (V.one V.tmp) ⟨by simp_all [Wi],rfl⟩

end Go.SX.Nb
namespace Go.Proofs
open Go.Shelf Go.RowKit

section
variable {P:Program} (w:World)

/-- Bytes behind a builder's bytes: what is handed back lies where it lay, or in the next block, or nowhere still. -/
theorem aw {t u ty e:TypeId} {i:TypeInfo} (ht:P.underlying t=some (.slice e)) (hu:P.underlying u=some .string) (hi:P.info? e=some i) (hz:i.zero=some (.int .u8 0)) (hsize:i.size=1) (hby:i.bytes=1)
  (v:Value) (n:Nat) (xs:List Value) (hown:w.ownsRow 0 e 1 v n xs) (s:ByteArray) (hb:n+s.size≤140737488355328):
  ∃v' w',(Builtin.append_ #[t,u] ty #[v,.string s]).run P w=.ok v' w'∧w'.ownsRow 0 e 1 v' (n+s.size) (xs++Lib.strCells s)∧w.grownBy w' v'.ownBlock ∧
   ((v=.slice none 0 0∧v'=v∧s.size=0)∨(∃g cap,v=.slice (some ⟨g,0,none⟩) n cap∧v'=.slice (some ⟨g,0,none⟩) (n+s.size) cap)∨∃cap,v'=.slice (some ⟨w.heap.size,0,none⟩) (n+s.size) cap∧0<n+s.size):=by
 have h63:n+s.size≤maxLen:=by unfold maxLen;omega
 obtain ⟨v',w',hr,h1,h2,h3⟩:=Lib.run_append_own_string (P:=P) w 0 t u ty e i ht hu hi hz hsize hby v n xs hown s h63 hb (Nat.zero_le _)
 have hxl:xs.length=n:=by simpa using hown.1
 refine ⟨v',w',hr,h1,?_⟩
 rcases hown.2 with ⟨rfl,rfl⟩|⟨g,cap,cur,rfl,hbg,hg,hnc,hcm,hcs,htake⟩
 ·by_cases hm:s.size=0
  ·have e1:=h3.2 ⟨rfl,hm⟩
   exact ⟨by rw [e1];exact h2,.inl ⟨rfl,e1,hm⟩⟩
  have hr2:=run_append_nil_string (P:=P) w t u ty e i (.int .u8 0) ht hu hi hz s (by omega) (by omega) (by rw [hby];omega)
  rw [hr] at hr2
  injection hr2 with e1 e2
  refine ⟨?_,.inr (.inr ⟨_,by rw [e1,Nat.zero_add],by omega⟩)⟩
  rw [e2]
  exact ⟨rfl,rfl,rfl,by simp,fun k hk _=>Lib.alloc_old w.drew _ k hk⟩
 by_cases hroom:n+s.size≤cap
 ·have hcs':cur.size=cap:=by simpa using hcs
  have hr2:=Lib.run_append_room_string (P:=P) w t u ty e i ht hu hi hsize g n cap cur hg s hroom (by omega)
  rw [hr] at hr2
  injection hr2 with e1 e2
  exact ⟨by rw [e1];exact h2,.inr (.inl ⟨g,cap,rfl,e1⟩)⟩
 have holds:∀j u,xs[j]? = some u→w.cell? ((⟨g,0,none⟩:Addr).add j)=some u:=hown.cells (g:=g) rfl
 have hr2:=Lib.run_append_grow_string (P:=P) w t u ty e i (.int .u8 0) ht hu hi hz ⟨g,0,none⟩ n cap xs (by rw [hsize];simpa using hxl) holds s (by omega) (by omega) (by rw [hby];exact growslice_fits (by omega) (by omega))
 rw [hr] at hr2
 injection hr2 with e1 e2
 refine ⟨?_,.inr (.inr ⟨_,e1,by omega⟩)⟩
 rw [e2]
 exact ⟨rfl,rfl,rfl,by simp,fun k hk _=>Lib.alloc_old w.drew _ k hk⟩
end

theorem Lk {P:Program} {w w':World} {ops:Array Oper} {rest:List Oper} {o:Oper} {a:Act} {Q:Exit→Act→World→Prop} {v v':Value} {s:ByteArray} (hgd:o.guard=none) (sl x:Operand) (t u ty:TypeId)
  (ho:o.op=.call { callee:=.builtin .append,args:=#[sl,x],argTypes:=#[t,u] }) (hty:o.type=ty) (hs:a.eval sl=v) (hx:a.eval x=.string s) (hrun:(Builtin.append_ #[t,u] ty #[v,.string s]).run P w=.ok v' w')
  (h:wpList P ops Q rest (a.put o.dst v') w'):wpList P ops Q (o::rest) a w:=by
 refine wpList_plain hgd fun K hK=>?_
 subst hty
 unfold Oper.wp execOp
 simp only [ho,resolve,invoke,builtin,Sem.run_bind,Sem.run_pure,Result.andThen_ok,List.map_toArray,List.map_cons,List.map_nil,hs,hx,hrun]
 exact hK _ _ h

section
variable {P:Program} {ρ:Ren}

set_option maxHeartbeats 1000000 in
set_option maxRecDepth 100000 in
/-- The check of an unused builder within a block of type T. -/
theorem ax (L:Lays.n240 P ρ) (X:Builder.X72 P ρ) {T:TypeId} (hl:liesAt P P.depth T (2 / P.cellsOf T) 0 (ρ.t 72) 1=true) (b:Nat) (w:World) (h0:w.cell? ⟨b,0,none⟩=some (.pointer none)) (hsh:w.shape? b=some (T,2)) (hfz:w.frozen? ⟨b,0,none⟩=false):
  Calls P (ρ.f 240) #[.pointer (some ⟨b,0,none⟩)] w fun e w'=>e=.returned (.tuple #[])∧w'=w.setCell ⟨b,0,none⟩ (.pointer (some ⟨b,0,none⟩)):=by
 obtain ⟨j,hj,hjs⟩:=Option.map_eq_some_iff.1 X.sizeBuilder
 have mixed:=L.mixed
 have t72:=L.t72;have a72:=L.a72;have z72:=L.z72;have v72:=L.v72;have u72:=run_underlying L.t72
 have t70:=L.t70;have a70:=L.a70;have z70:=L.z70;have v70:=L.v70;have u70:=run_underlying L.t70
 have t9:=L.t9;have a9:=L.a9;have z9:=L.z9;have v9:=L.v9;have u9:=run_underlying L.t9
 have t4:=L.t4;have a4:=L.a4;have z4:=L.z4;have v4:=L.v4;have u4:=run_underlying L.t4
 have t164:=L.t164;have a164:=L.a164;have z164:=L.z164;have v164:=L.v164;have u164:=run_underlying L.t164
 go_enter L.f240,Body.n240_ntmps ρ
 go_wp2
 rw [Lib.run_to_unsafe w ⟨b,0,none⟩ L.t70 L.t164 hj (by rw [hjs];decide) hsh (Nat.zero_lt_succ 1)]
 simp only [Result.andThen]
 rw [Oper.upon_value]
 go_wp2
 rw [run_callFunc_extern L.f276 (by kernel_rfl) (by kernel_rfl) (by kernel_rfl) (e:=Extern.AbiNoEscape.same) (by kernel_rfl)]
 rw [Lib.run_noEscape]
 simp only [Result.andThen]
 rw [Oper.upon_value]
 go_wp2
 rw [Lib.run_from_unsafe w ⟨b,0,none⟩ L.t164 L.t70 hj hsh hl]
 simp only [Result.andThen]
 rw [Oper.upon_value]
 go_wp2
 go_end0
 exact ⟨rfl,rfl⟩

/-- The check: behind it the first cell holds the builder's own address; nothing else turns. -/
theorem g7 (L:Lays.n240 P ρ) (X:Builder.X72 P ρ) {T e:TypeId} (hl:liesAt P P.depth T (2 / P.cellsOf T) 0 (ρ.t 72) 1=true) (b:Nat) (p v:Value) (n:Nat) (bs:List Value) (w:World) (h:I7 T e b p v n bs w):
  Calls P (ρ.f 240) #[.pointer (some ⟨b,0,none⟩)] w fun e' w'=>e'=.returned (.tuple #[])∧I7 T e b (.pointer (some ⟨b,0,none⟩)) v n bs w'∧w.grownBy w' (some b)∧w'.heap.size=w.heap.size:=by
 obtain ⟨h1,hp,h3,h4⟩:=h
 rcases hp with rfl|rfl
 ·refine (ax L X hl b w (by rw [Lib.cell_of_heap h1];rfl) (by simp [World.shape?,h1]) (Lib.frozen_of_heap h1 0)).mono ?_
  rintro e' w' ⟨rfl,rfl⟩
  have hgr:w.grownBy (w.setCell ⟨b,0,none⟩ (.pointer (some ⟨b,0,none⟩))) (some b):=⟨rfl,rfl,rfl,by simp [World.setCell],fun k _ hk=>Below.heap_setCell _ _ _ _ (fun e=>hk (by simp [e]))⟩
  exact ⟨rfl,⟨by simp [World.setCell,Array.getElem?_modify,h1],.inr rfl,h3.kept hgr (.inr h4),h4⟩,hgr,by simp [World.setCell]⟩
 refine (Any.Builder_copyCheck_used L X b w (by rw [Lib.cell_of_heap h1];rfl)).mono ?_
 rintro e' w' ⟨rfl,rfl⟩
 exact ⟨rfl,⟨h1,.inr rfl,h3,h4⟩,⟨rfl,rfl,rfl,Nat.le_refl _,fun _ _ _=>rfl⟩,rfl⟩

set_option maxHeartbeats 1000000 in
set_option maxRecDepth 100000 in
/-- How many bytes there are. -/
theorem bldLen (L:Lays.n170 P ρ) {T e:TypeId} (b:Nat) (p v:Value) (n:Nat) (bs:List Value) (w:World) (h:I7 T e b p v n bs w):
  Calls P (ρ.f 170) #[.pointer (some ⟨b,0,none⟩)] w fun e' w'=>e'=.returned (.int .i64 n)∧w'=w:=by
 obtain ⟨h1,_,h3,_⟩:=h
 obtain ⟨ao,cap,rfl⟩:∃ao cap,v=.slice ao n cap:=by
  rcases h3.2 with ⟨hv,h0⟩|⟨g,cap,cur,hv,_⟩
  ·exact ⟨none,0,by rw [hv,h0]⟩
  exact ⟨_,_,hv⟩
 have c1:w.cell? ⟨b,1,none⟩=some (.slice ao n cap):=by rw [Lib.cell_of_heap h1];rfl
 have mixed:=L.mixed
 have t72:=L.t72;have a72:=L.a72;have z72:=L.z72;have v72:=L.v72;have u72:=run_underlying L.t72
 have t70:=L.t70;have a70:=L.a70;have z70:=L.z70;have v70:=L.v70;have u70:=run_underlying L.t70
 have t37:=L.t37;have a37:=L.a37;have z37:=L.z37;have v37:=L.v37;have u37:=run_underlying L.t37
 have t3:=L.t3;have a3:=L.a3;have z3:=L.z3;have v3:=L.v3;have u3:=run_underlying L.t3
 go_enter L.f170,Body.n170_ntmps ρ
 go_wp2
 go_ret
 exact ⟨rfl,rfl⟩

set_option maxHeartbeats 2000000 in
set_option maxRecDepth 100000 in
/-- A text is written behind it. -/
theorem bldWrite (L:Lays.n166 P ρ) (X:Builder.Extra P ρ) {T:TypeId} (hl:liesAt P P.depth T (2 / P.cellsOf T) 0 (ρ.t 72) 1=true) (hTe:T≠ρ.t 5) (b:Nat) (p v:Value) (n:Nat) (bs:List Value) (s:ByteArray) (w:World) (h:I7 T (ρ.t 5) b p v n bs w)
  (hlen:n+s.size≤140737488355328):
  Calls P (ρ.f 166) #[.pointer (some ⟨b,0,none⟩),.string s] w fun e w'=>e=.returned (.tuple #[.int .i64 s.size,.nilIface])∧∃v',I7 T (ρ.t 5) b (.pointer (some ⟨b,0,none⟩)) v' (n+s.size) (bs++Lib.strCells s) w' ∧
   (w'.os=w.os∧w'.tape=w.tape∧w'.output=w.output∧w.heap.size≤w'.heap.size)∧(∀k,k<w.heap.size→k≠b→v'.ownBlock≠some k→w'.heap[k]? = w.heap[k]?) ∧
   ((v=.slice none 0 0∧v'=v∧s.size=0)∨(∃g cap,v=.slice (some ⟨g,0,none⟩) n cap∧v'=.slice (some ⟨g,0,none⟩) (n+s.size) cap)∨∃cap,v'=.slice (some ⟨w.heap.size,0,none⟩) (n+s.size) cap∧0<n+s.size):=by
 obtain ⟨i0,hi,hz0,hz1,hz2⟩:=info_parts X.infoByte
 have mixed:=L.mixed
 have t72:=L.t72;have a72:=L.a72;have z72:=L.z72;have v72:=L.v72;have u72:=run_underlying L.t72
 have t70:=L.t70;have a70:=L.a70;have z70:=L.z70;have v70:=L.v70;have u70:=run_underlying L.t70
 have t37:=L.t37;have a37:=L.a37;have z37:=L.z37;have v37:=L.v37;have u37:=run_underlying L.t37
 have t3:=L.t3;have a3:=L.a3;have z3:=L.z3;have v3:=L.v3;have u3:=run_underlying L.t3
 have t9:=L.t9;have a9:=L.a9;have z9:=L.z9;have v9:=L.v9;have u9:=run_underlying L.t9
 have t4:=L.t4;have a4:=L.a4;have z4:=L.z4;have v4:=L.v4;have u4:=run_underlying L.t4
 have t164:=L.t164;have a164:=L.a164;have z164:=L.z164;have v164:=L.v164;have u164:=run_underlying L.t164
 have t5:=X.t5;have a5:=X.a5;have z5:=X.z5;have v5:=X.v5;have u5:=run_underlying X.t5
 have e240:∀args w,(callFunc (ρ.f 240) args).run P w=.ok (.enter (ρ.f 240) args) w:=enters_of L.f240 (by kernel_rfl) rfl
 go_enter L.f166,Body.n166_ntmps ρ
 go_wp2_with (go_at_fn (ρ.f 240);refine (g7 { L with } X.toX72 hl b p v n bs _ h).mono ?_)
 rintro e w1 ⟨rfl,⟨hbk,_,hown,hne⟩,hg1,hs1⟩
 have c0:w1.cell? ⟨b,0,none⟩=some (.pointer (some ⟨b,0,none⟩)):=by rw [Lib.cell_of_heap hbk];rfl
 have c1:w1.cell? ⟨b,1,none⟩=some v:=by rw [Lib.cell_of_heap hbk];rfl
 obtain ⟨v',w2,hrun,hown',hgrow,hcase⟩:=aw (P:=P) w1 (ty:=ρ.t 37) L.t37 L.t9 hi hz0 hz1 hz2 v n bs hown s hlen
 have hlt:b<w1.heap.size:=(Array.getElem?_eq_some_iff.1 hbk).1
 have hne':v'.ownBlock≠some b:=by
  rcases hcase with ⟨_,e1,_⟩|⟨g,cap,e1,e2⟩|⟨cap,e1,_⟩
  ·rw [e1];exact hne
  ·rw [e2];rw [e1] at hne;exact hne
  rw [e1];simp [Value.ownBlock];omega
 have hb2:w2.heap[b]? = some (.cells #[.pointer (some ⟨b,0,none⟩),v] T (0,0)):=by
  rw [hgrow.block b hlt (fun e=>hne' e.symm)]
  exact hbk
 have d0:w2.cell? ⟨b,0,none⟩=some (.pointer (some ⟨b,0,none⟩)):=by rw [Lib.cell_of_heap hb2];rfl
 have d1:w2.cell? ⟨b,1,none⟩=some v:=by rw [Lib.cell_of_heap hb2];rfl
 have f1:w2.frozen? ⟨b,1,none⟩=false:=Lib.frozen_of_heap hb2 1
 obtain ⟨ao,n',cap,rfl⟩:∃ao n' cap,v'=.slice ao n' cap:=by
  rcases hown'.2 with ⟨hv,_⟩|⟨g,cap,cur,hv,_⟩
  ·exact ⟨_,_,_,hv⟩
  exact ⟨_,_,_,hv⟩
 go_wp2_with (at_builtin;refine Lk rfl _ _ (ρ.t 37) (ρ.t 9) (ρ.t 37) rfl rfl rfl rfl hrun ?_)
 go_ret2
 refine ⟨rfl,_,⟨by simp [World.setCell,Array.getElem?_modify,hb2],.inr rfl,hown'.kept (row:=some b) ⟨rfl,rfl,rfl,by simp [World.setCell],fun k _ hk=>Below.heap_setCell _ _ _ _ (fun e=>hk (by simp [e]))⟩ (.inr hne'),hne'⟩,⟨?_,?_,?_,?_⟩,fun k hk hkb hkr=>?_,?_⟩
 ·exact hgrow.os.trans hg1.os
 ·exact hgrow.tape.trans hg1.tape
 ·exact hgrow.output.trans hg1.output
 ·have:=hgrow.size
  simp [World.setCell];omega
 ·rw [Below.heap_setCell _ _ _ _ hkb,hgrow.block k (by omega) (fun e=>hkr e.symm),hg1.block k hk (by simpa using hkb)]
 rw [hs1] at hcase;exact hcase

set_option maxHeartbeats 2000000 in
set_option maxRecDepth 100000 in
/-- Its text: some of its row is frozen; nothing else turns. -/
theorem bldString (L:Lays.n169 P ρ) (X:Builder.Extra P ρ) {T:TypeId} (b:Nat) (p v:Value) (l:List UInt8) (w:World) (h:I7 T (ρ.t 5) b p v l.length (Lib.byteCells l) w) (hcap:∀g,v≠.slice (some ⟨g,0,none⟩) 0 0):
  Calls P (ρ.f 169) #[.pointer (some ⟨b,0,none⟩)] w fun e w'=>e=.returned (.string ⟨l.toArray⟩)∧(w'.os=w.os∧w'.tape=w.tape∧w'.output=w.output∧w.heap.size≤w'.heap.size)∧∀k,v.ownBlock≠some k→w'.heap[k]? = w.heap[k]? := by
 obtain ⟨hbk,_,hown,hne⟩:=h
 have mixed:=L.mixed
 have t72:=L.t72;have a72:=L.a72;have z72:=L.z72;have v72:=L.v72;have u72:=run_underlying L.t72
 have t70:=L.t70;have a70:=L.a70;have z70:=L.z70;have v70:=L.v70;have u70:=run_underlying L.t70
 have t37:=L.t37;have a37:=L.a37;have z37:=L.z37;have v37:=L.v37;have u37:=run_underlying L.t37
 have t127:=L.t127;have a127:=L.a127;have z127:=L.z127;have v127:=L.v127;have u127:=run_underlying L.t127
 have t3:=L.t3;have a3:=L.a3;have z3:=L.z3;have v3:=L.v3;have u3:=run_underlying L.t3
 have t9:=L.t9;have a9:=L.a9;have z9:=L.z9;have v9:=L.v9;have u9:=run_underlying L.t9
 have t5:=X.t5;have a5:=X.a5;have z5:=X.z5;have v5:=X.v5;have u5:=run_underlying X.t5
 rcases hown.2 with ⟨rfl,h0⟩|⟨g,cap,cur,rfl,hbg,hg,hnc,hcm,hcs,htake⟩
 ·have hl:l=[]:=List.eq_nil_of_length_eq_zero h0
  subst hl
  have hUS:=Any.unsafeString_none L X
  have c1:w.drew.cell? ⟨b,1,none⟩=some (.slice none 0 0):=by
   have:w.drew.heap[b]? = some (.cells #[p,.slice none 0 0] T (0,0)):=hbk
   rw [Lib.cell_of_heap this];rfl
  have hSD:(Builtin.unsafeSliceData_ #[(ρ.t 37)] (ρ.t 127) #[.slice none 0 0]).run P w.drew=.ok (.pointer none) w.drew:=rfl
  go_enter L.f169,Body.n169_ntmps ρ
  go_wp2
  go_region_o
  all_goals (go_wp2;go_ret;exact ⟨rfl,⟨rfl,rfl,rfl,Nat.le_refl _⟩,fun _ _=>rfl⟩)
 have hc0:cap≠0:=by
  rintro rfl
  exact hcap g (by rw [show l.length=0 by omega])
 have c1:w.drew.cell? ⟨b,1,none⟩=some (.slice (some ⟨g,0,none⟩) l.length cap):=by
  have:w.drew.heap[b]? = some (.cells #[p,.slice (some ⟨g,0,none⟩) l.length cap] T (0,0)):=hbk
  rw [Lib.cell_of_heap this];rfl
 have hSD:(Builtin.unsafeSliceData_ #[(ρ.t 37)] (ρ.t 127) #[.slice (some ⟨g,0,none⟩) l.length cap]).run P w.drew=.ok (.pointer (some ⟨g,0,none⟩)) w.drew:=
  Lib.run_unsafeSliceData_row _ _ _ _ _ _ hc0
 by_cases hl:l=[]
 ·subst hl
  have hUS:=Any.unsafeString_none L X
  clear hc0 hcap
  simp only [List.length_nil] at c1 hSD
  go_enter L.f169,Body.n169_ntmps ρ
  go_wp2
  go_region_o
  all_goals (go_wp2;go_ret;exact ⟨rfl,⟨rfl,rfl,rfl,Nat.le_refl _⟩,fun _ _=>rfl⟩)
 have hUS:(Builtin.unsafeString_ #[(ρ.t 127),(ρ.t 3)] (ρ.t 9) #[.pointer (some ⟨g,0,none⟩),.int .i64 l.length]).run P w.drew=.ok (.string ⟨l.toArray⟩) (w.drew.freeze ⟨g,0,none⟩ l.length):=by
  refine Lib.run_unsafeString_row w.drew (ρ.t 127) (ρ.t 3) (ρ.t 9) (ρ.t 5) L.t127 X.cellsByte g cur.size (by have hg':w.drew.heap[g]? = some (.cells cur (ρ.t 5) (0,0)):=hg;simp [World.shape?,hg']) l hl (by omega) (by unfold maxLen at hcm;omega) ?_
  intro j x hx
  exact hown.cells (g:=g) rfl j (.int .u8 x.toNat) (by simp [Lib.byteCells,hx])
 have hfz:∀k,g≠k→(w.drew.freeze ⟨g,0,none⟩ l.length).heap[k]? = w.heap[k]? := fun k hk=>by
  unfold World.freeze
  split
  ·rfl
  show (w.heap.modify g _)[k]? = _
  rw [Array.getElem?_modify,if_neg hk]
 have hfs:(w.drew.freeze ⟨g,0,none⟩ l.length).heap.size=w.heap.size:=by
  unfold World.freeze
  split
  ·rfl
  show (w.heap.modify g _).size=_
  simp
 have hfo:(w.drew.freeze ⟨g,0,none⟩ l.length).os=w.os∧(w.drew.freeze ⟨g,0,none⟩ l.length).tape=w.tape∧(w.drew.freeze ⟨g,0,none⟩ l.length).output=w.output:=by
  unfold World.freeze
  split<;>exact ⟨rfl,rfl,rfl⟩
 clear hc0 hcap
 go_enter L.f169,Body.n169_ntmps ρ
 go_wp2
 go_region_o
 all_goals (go_wp2;go_ret;exact ⟨rfl,⟨hfo.1,hfo.2.1,hfo.2.2,Nat.le_of_eq hfs.symm⟩,fun k hk=>hfz k (fun e=>hk (by rw [e];rfl))⟩)
end
end Go.Proofs

namespace Go.SX.Nb
open Go Go.SX Go.Proofs Go.Shelf
variable [ErrAt]
set_option maxRecDepth 8000
/-! show's builder. -/
theorem l4:Builder.Extra Tryz.prog Tryz.ren155 where
 sizeBuilder:=by kernel_rfl
 liesBuilder:=by kernel_rfl
 t5:=Tryz.underlying5
 a5:=Tryz.isAgg5
 z5:=Tryz.sizeOf5
 v5:=Tryz.zeroValue5
 infoByte:=by kernel_rfl
 cellsByte:=by kernel_rfl
 sizeByte:=by kernel_rfl
 neB5:=by decide
theorem l5:liesAt Tryz.prog Tryz.prog.depth 160 (2 / Tryz.prog.cellsOf 160) 0 74 1=true:=by kernel_rfl
abbrev On (bs:Str):AObj:=.bld 160 5 bs
theorem Bs {n:Nat} {bs:Str}:ObjLow n (On bs):=trivial
/-- (*strings.Builder).WriteString. -/
theorem c31 (bs s:Str) (hl:bs.length+s.length≤140737488355328) (o:Nat) (Hp:List AObj) (ho:Hp[o]? = some (On bs)):
  ACall Tryz.prog 31 [.ptr o 0,A8 s] Hp (fun r H'=>r=.tup [A5 s.length,.v .nilIface]∧H'=Hp.set o (On (bs++s))):=by
 refine ACall.bldWrite ho (fun b p v w h=>?_)
 have hw:=bldWrite Tryz.lays166 l4 (T:=160) l5 (by decide) b p v bs.length (Lib.byteCells bs) ⟨s.toArray⟩ w h (by rw [Cd];exact hl)
 rw [Cd,Lib.strCells_eq,←Lib.byteCells_append] at hw
 exact hw
/-- (*strings.Builder).Len. -/
theorem c32 (bs:Str) (o:Nat) (Hp:List AObj) (ho:Hp[o]? = some (On bs)):AFun Tryz.prog 32 [.ptr o 0] Hp (A5 bs.length):=
 AFun.bldLen ho (fun b p v w h=>bldLen Tryz.lays170 (T:=160) (e:=5) b p v _ _ w h)
/-- (*strings.Builder).String. -/
theorem c33 (bs:Str) (o:Nat) (Hp:List AObj) (ho:Hp[o]? = some (On bs)):ACall Tryz.prog 33 [.ptr o 0] Hp (fun r H'=>r=A8 bs∧H'=Hp.set o (.cells 160 [.any,.any])):=
 ACall.bldString ho (fun b p v w h hc=>bldString (ρ:=Tryz.ren155) { Tryz.lays155 with } l4 (T:=160) b p v bs w h hc)
end Go.SX.Nb
namespace Go.SX.Nb
open Go Go.SX Go.Proofs
variable [ErrAt]
set_option maxRecDepth 4000
abbrev m0:AV:=.v (.tuple #[])
abbrev Ec:Nat:=1099511627776
/-- What node writes. -/
def g8 (e:Expr):Prop:=∀(o:Nat) (bs:Str) (Hp:List AObj),Hp[o]? = some (On bs)→bs.length+(Ab e).length≤Ec→ACall Tryz.prog 137 [.ptr o 0,A6 e] Hp (fun r H'=>r=m0∧H'=Hp.set o (On (bs++Ab e)))
theorem ay (e:Expr):Ab e=Ko e.op e.text e.val e.kids (e.kids.map Ab):=by
 cases e with
 | mk o t v k=>rw [Ab,Jq];rfl
theorem l6 {k:List Expr} {i:Nat} (h:i<k.length):(k.map Ab).getD i []=Ab (k.getD i Ae):=by
 rw [List.getD_eq_getElem?_getD,List.getD_eq_getElem?_getD,List.getElem?_map,List.getElem?_eq_getElem h]
 rfl
theorem Qd (l:List Str) (s:Str):Eb (l++[s])=Eb l++(44::32::s):=by
 induction l with
 | nil=>simp [Eb]
 | cons a r ih=>simp [Eb,ih]
theorem g9 {k:List Expr} {x:Nat} (h:x<k.length):(Eb ((k.take (x+1)).map Ab)).drop 2=(Eb ((k.take x).map Ab)).drop 2++(if 0<x then [44,32] else [])++Ab k[x]:=by
 rw [List.take_succ_eq_append_getElem h,List.map_append,List.map_singleton,Qd]
 cases x with
 | zero=>simp [Eb]
 | succ x =>
  have:2≤(Eb ((k.take (x+1)).map Ab)).length:=by
   rw [List.take_succ_eq_append_getElem (by omega),List.map_append,List.map_singleton,Qd]
   simp
   omega
  rw [List.drop_append_of_le_length this,if_pos (by omega)]
  simp
theorem nk {k:List Expr} (x:Nat):(Eb ((k.take x).map Ab)).length≤(Eb (k.map Ab)).length:=by
 have:k.map Ab=(k.take x).map Ab++(k.drop x).map Ab:=by rw [←List.map_append,List.take_append_drop]
 rw [this]
 have:∀a b:List Str,(Eb a).length≤(Eb (a++b)).length:=by
  intro a b
  induction a with
  | nil=>simp [Eb]
  | cons c r ih=>simp [Eb];exact ih
 exact this _ _
theorem U7 {H:List AObj} {o:Nat} {a b:AObj}:(H.set o a).set o b=H.set o b:=List.set_set _
theorem c171 (e:Expr) (he:g8 e) (hlev:Wi e=(levE e:Int)) (least:Nat) (l0:Int) (hl0:l0=(least:Int)) (o:Nat) (bs:Str) (Hp:List AObj) (ho:Hp[o]? = some (On bs)) (hb:bs.length+(Ht least e (Ab e)).length≤Ec):ACall Tryz.prog 171 [.ptr o 0,A6 e,A5 l0] Hp (fun r H'=>r=m0∧H'=Hp.set o (On (bs++Ht least e (Ab e)))):=by
 subst hl0
 refine ACall.body [] [0,1,2] Tryz.func171 Tryz.ntmps171 (fun d=>?_)
 refine Z2 ?_;refine R.fin [0,2,4] ?_;refine Z42 ?_;refine R.call Tryz.call169 (qm e _) ?_;refine Z0 ?_;refine R.fin [0,4,9] ?_
 refine W.cond (fun ht9=>?_) (fun ht9=>?_)
 ·have hz:least≤levE e:=by
   have h:=ht9
   rw [hlev] at h
   simpa using h
  rw [show Ht least e (Ab e)=Ab e from if_pos hz] at hb ⊢
  refine Z1 ?_;refine R.callUp Tryz.call137 ho (by simp) Bs (he o bs _ (A4 ho) (by omega)) ?_;refine R.fin [] ?_;refine Z98 ?_;exact K.fin .nores ⟨rfl,by simp⟩
 have hz:¬least≤levE e:=by
  have h:=ht9
  rw [hlev] at h
  simpa using h
 rw [show Ht least e (Ab e)=40::(Ab e++[41]) from if_neg hz] at hb ⊢
 simp only [List.length_cons,List.length_append,List.length_nil,Ec] at hb
 refine Sv ?_
 refine R.callUp Tryz.call31 ho (by simp) Bs (c31 bs [40] (by simp only [Ec,List.length_append,List.length_cons,List.length_nil] at *;omega) o _ (A4 ho)) ?_
 refine R.fin [0,4] ?_;refine Z1 ?_
 refine R.callUp Tryz.call137 (getset ho) (by simp) Bs (he o (bs++[40]) _ (A4 (getset ho)) (by simp only [Ec,List.length_append,List.length_cons,List.length_nil] at *;omega)) ?_
 refine R.fin [0] ?_;refine Z28 ?_
 refine R.callUp Tryz.call31 (getset (getset ho)) (by simp) Bs (c31 (bs++[40]++Ab e) [41] (by simp only [Ec,List.length_append,List.length_cons,List.length_nil] at *;omega) o _ (A4 (getset (getset ho)))) ?_
 refine R.fin [] ?_;exact K.finN .nores ⟨rfl,by simp⟩

theorem sy:∀(n:Nat) (e:Expr),okE n e→Ci Bj e=true→Ci Eo e=true→g8 e:=by
 intro n
 induction n with
 | zero=>exact fun e h=>h.elim
 | succ n ih =>
 intro e hok hnd hrg o bs Hp ho hb
 have hnd0:=hnd
 have hrg0:=hrg
 rw [E0,Bool.and_eq_true] at hnd0 hrg0
 have hev:∀y∈e.kids,g8 y:=fun y hy=>ih y (hok.2.2 y hy) ((Ee _ _).1 hnd0.2 y hy) ((Ee _ _).1 hrg0.2 y hy)
 have hlv:∀y∈e.kids,Wi y=(levE y:Int):=fun y hy=>Xw (by have:=(Ee _ _).1 hnd0.2 y hy;rw [E0,Bool.and_eq_true] at this;exact this.1)
 obtain ⟨k5,k34,k6,kall⟩:=fx hnd0.1
 have hi64:jd e.val.n:=by
  have:=hrg0.1
  simp only [Eo,Bool.and_eq_true,decide_eq_true_eq] at this
  exact this
 have hlv0:=Xw hnd0.1
 have pe:=ay e
 have hol:=(List.getElem?_eq_some_iff.1 ho).1
 unfold Ko at pe
 refine ACall.body [] [0,1] Tryz.func137 Tryz.ntmps137 (fun d=>?_)
 refine Z2 ?_;refine L1 ?_;refine Z2 ?_;refine R.call Tryz.call169 (qm e _) ?_;refine R.go ?_;refine R.fin [0,3,4] ?_;refine Z1 ?_;refine R.fin [0,3,4,11] ?_;refine Z64 ?_;refine R.fin [0,3,4,11,12] ?_
 refine W.cond (fun ht12=>?_) (fun ht12=>?_)
 ·rw [if_pos ht12] at pe
  refine W.drawQ0 [0,1,3,0,8,24,63] 6 Aa (by kernel_rfl) ?_;refine Vc ?_;refine D.call Tryz.call170 (q9 e.val hi64 _) ?_;refine D.tail ?_
  refine R.callUp Tryz.call31 ho (by simp) Bs (c31 bs (Dp e.val) (by rw [pe] at hb;simp only [Ec] at hb;omega) o _ (A4 ho)) ?_
  exact Z85
 rw [if_neg (by rw [ht12];simp)] at pe
 refine Z1 ?_;refine R.fin [0,3,4,11,21] ?_
 refine W.cond (fun ht21=>?_) (fun ht21=>?_)
 ·rw [if_pos ht21] at pe
  refine W.drawQ0 [0,1,3,0,8,31] 5 Aa (by kernel_rfl) ?_;refine Vc ?_;refine D.tail ?_
  refine R.callUp Tryz.call31 ho (by simp) Bs (c31 bs e.text (by rw [pe] at hb;simp only [Ec] at hb;omega) o _ (A4 ho)) ?_
  exact Z85
 rw [if_neg (by rw [ht21];simp)] at pe
 refine Z1 ?_;refine R.fin [0,3,4,11,29] ?_
 refine W.cond (fun ht29=>?_) (fun ht29=>?_)
 ·rw [if_pos ht29] at pe
  have hkl:=k34 (.inl (by simpa using ht29))
  rw [l6 (by omega)] at pe
  rw [pe] at hb
  simp only [List.length_cons,Ec] at hb
  refine Z18 ?_
  refine R.callUp Tryz.call31 ho (by simp) Bs (c31 bs [45] (by simp only [Ec,List.length_append,List.length_cons,List.length_nil] at *;omega) o _ (A4 ho)) ?_
  refine L1 ?_;refine Z28 ?_
  refine R.go (h:=Q.indexAddr (0) (A6 (e.kids.getD 0 Ae)) (fun _=>(Hu (by omega)).1)) (hr:=?_)
  refine R.go ?_
  refine R.callUp Tryz.call171 (getset ho) (by simp) Bs (c171 (e.kids.getD 0 Ae) (hev _ (Hu (by omega)).2.1) (hlv _ (Hu (by omega)).2.1) (6) _ (rfl) o (bs++[45]) _ (A4 (getset ho)) (by simp only [Ec,List.length_append,List.length_cons,List.length_nil] at *;omega)) ?_
  exact Z85
 rw [if_neg (by rw [ht29];simp)] at pe
 refine Z1 ?_;refine R.fin [0,3,4,11,41] ?_
 refine W.cond (fun ht41=>?_) (fun ht41=>?_)
 ·rw [if_pos ht41] at pe
  have hkl:=k34 (.inr (by simpa using ht41))
  rw [l6 (by omega)] at pe
  rw [pe] at hb
  simp only [List.length_cons,List.length_append,aa,List.length_nil,Ec] at hb
  refine Z18 ?_
  refine R.callUp Tryz.call31 ho (by simp) Bs (c31 bs [110,111,116,32] (by simp only [Ec,List.length_append,List.length_cons,List.length_nil] at *;omega) o _ (A4 ho)) ?_
  refine L1 ?_;refine Z28 ?_
  refine R.go (h:=Q.indexAddr (0) (A6 (e.kids.getD 0 Ae)) (fun _=>(Hu (by omega)).1)) (hr:=?_)
  refine R.go ?_
  refine R.callUp Tryz.call171 (getset ho) (by simp) Bs (c171 (e.kids.getD 0 Ae) (hev _ (Hu (by omega)).2.1) (hlv _ (Hu (by omega)).2.1) (2) _ (rfl) o (bs++[110,111,116,32]) _ (A4 (getset ho)) (by simp only [Ec,List.length_append,List.length_cons,List.length_nil] at *;omega)) ?_
  exact Z85
 rw [if_neg (by rw [ht41];simp)] at pe
 refine Z1 ?_;refine R.fin [0,3,4,11,53] ?_
 refine W.cond (fun ht53=>?_) (fun ht53=>?_)
 ·rw [if_pos ht53] at pe
  have h5:e.op=5:=by simpa using ht53
  have hkl:=k5 h5
  have hlv5:levE e=(Ag e.text).toNat:=by simp [levE,h5]
  have hl5:=er e.text
  rw [l6 (by omega),l6 (by omega)] at pe
  rw [pe] at hb
  simp only [List.length_cons,List.length_append,Ec] at hb
  rw [hlv0,hlv5]
  refine Z1 ?_;refine R.fin [0,3,4,5] ?_;refine Z11 ?_;refine R.fin [0,3,4,5,57] ?_
  refine W.cond (fun ht57=>?_) (fun ht57=>?_)
  ·have h3:(Ag e.text).toNat=3:=by have:=ht57;simp at this;omega
   have hf1:(((Ag e.text).toNat:Int)+1)=((Df (Ag e.text).toNat:Nat):Int):=by rw [h3];rfl
   refine Z28 ?_;refine R.fin [0,3,4,5] ?_;refine K.thN ?_;refine Z18 ?_
   refine R.go (h:=Q.indexAddr (0) (A6 (e.kids.getD 0 Ae)) (fun _=>(Hu (by omega)).1)) (hr:=?_)
   refine Z0 ?_
   refine R.callUp Tryz.call171 ho (by simp) Bs (c171 (e.kids.getD 0 Ae) (hev _ (Hu (by omega)).2.1) (hlv _ (Hu (by omega)).2.1) (Df (Ag e.text).toNat) _ (by first|exact hf1|rw [hf2]) o (bs) _ (A4 ho) (by simp only [Ec,List.length_append,List.length_cons,List.length_nil] at *;omega)) ?_
   refine oo ?_;refine Vc ?_
   refine D.go (h:=Q.sadd (hl:=fun _=>by simp only [List.length_cons,List.length_nil];omega)) (hr:=?_)
   refine D.go (h:=Q.sadd (hl:=fun _=>by simp only [List.length_cons,List.length_nil,List.length_append];omega)) (hr:=?_)
   refine D.tail ?_
   refine R.callUp Tryz.call31 (getset ho) (by simp) Bs (c31 (bs++Ht (Df (Ag e.text).toNat) (e.kids.getD 0 Ae) (Ab (e.kids.getD 0 Ae))) (32::(e.text++[32])) (by simp only [Ec,List.length_append,List.length_cons,List.length_nil] at *;omega) o _ (A4 (getset ho))) ?_
   refine R.fin [0,3,4] ?_;refine Z28 ?_
   refine R.go (h:=Q.indexAddr (1) (A6 (e.kids.getD 1 Ae)) (fun _=>(Hu (by omega)).1)) (hr:=?_)
   refine Z9 ?_
   refine R.callUp Tryz.call171 (getset (getset ho)) (by simp) Bs (c171 (e.kids.getD 1 Ae) (hev _ (Hu (by omega)).2.1) (hlv _ (Hu (by omega)).2.1) ((Ag e.text).toNat+1) _ (by first|rfl|(push_cast;rfl)) o (bs++Ht (Df (Ag e.text).toNat) (e.kids.getD 0 Ae) (Ab (e.kids.getD 0 Ae))++32::(e.text++[32])) _ (A4 (getset (getset ho))) (by simp only [Ec,List.length_append,List.length_cons,List.length_nil] at *;omega)) ?_
   exact Z85
  have h3:(Ag e.text).toNat≠3:=by have:=ht57;simp at this;omega
  have hf2:Df (Ag e.text).toNat=(Ag e.text).toNat:=by unfold Df;rw [if_neg h3]
  refine Sv ?_
  refine R.go (h:=Q.indexAddr (0) (A6 (e.kids.getD 0 Ae)) (fun _=>(Hu (by omega)).1)) (hr:=?_)
  refine Z0 ?_
  refine R.callUp Tryz.call171 ho (by simp) Bs (c171 (e.kids.getD 0 Ae) (hev _ (Hu (by omega)).2.1) (hlv _ (Hu (by omega)).2.1) (Df (Ag e.text).toNat) _ (by first|exact hf1|rw [hf2]) o (bs) _ (A4 ho) (by simp only [Ec,List.length_append,List.length_cons,List.length_nil] at *;omega)) ?_
  refine oo ?_;refine Vc ?_
  refine D.go (h:=Q.sadd (hl:=fun _=>by simp only [List.length_cons,List.length_nil];omega)) (hr:=?_)
  refine D.go (h:=Q.sadd (hl:=fun _=>by simp only [List.length_cons,List.length_nil,List.length_append];omega)) (hr:=?_)
  refine D.tail ?_
  refine R.callUp Tryz.call31 (getset ho) (by simp) Bs (c31 (bs++Ht (Df (Ag e.text).toNat) (e.kids.getD 0 Ae) (Ab (e.kids.getD 0 Ae))) (32::(e.text++[32])) (by simp only [Ec,List.length_append,List.length_cons,List.length_nil] at *;omega) o _ (A4 (getset ho))) ?_
  refine R.fin [0,3,4] ?_;refine Z28 ?_
  refine R.go (h:=Q.indexAddr (1) (A6 (e.kids.getD 1 Ae)) (fun _=>(Hu (by omega)).1)) (hr:=?_)
  refine Z9 ?_
  refine R.callUp Tryz.call171 (getset (getset ho)) (by simp) Bs (c171 (e.kids.getD 1 Ae) (hev _ (Hu (by omega)).2.1) (hlv _ (Hu (by omega)).2.1) ((Ag e.text).toNat+1) _ (by first|rfl|(push_cast;rfl)) o (bs++Ht (Df (Ag e.text).toNat) (e.kids.getD 0 Ae) (Ab (e.kids.getD 0 Ae))++32::(e.text++[32])) _ (A4 (getset (getset ho))) (by simp only [Ec,List.length_append,List.length_cons,List.length_nil] at *;omega)) ?_
  exact Z85
 rw [if_neg (by rw [ht53];simp)] at pe
 refine Z1 ?_;refine R.fin [0,3,83] ?_
 refine W.cond (fun ht83=>?_) (fun ht83=>?_)
 ·have hsl:∀x,((Eb ((e.kids.take x).map Ab)).drop 2).length≤((Eb (e.kids.map Ab)).drop 2).length:=fun x=>by have:=nk (k:=e.kids) x;rw [List.length_drop,List.length_drop];omega
  have hkl6:=hok.2.1
  rw [pe] at hb
  simp only [List.length_cons,List.length_append,List.length_nil,Ec] at hb
  refine W.drawQ [0,1,3,0,8,24,63] 6 Aa (by kernel_rfl) ?_;refine Vc ?_
  refine D.go (h:=Q.sadd (hl:=fun _=>by simp only [List.length_cons,List.length_nil];omega)) (hr:=?_)
  refine D.tail ?_
  refine R.callUp Tryz.call31 ho (by simp) Bs (c31 bs (e.text++[40]) (by simp only [Ec,List.length_append,List.length_cons,List.length_nil] at *;omega) o _ (A4 ho)) ?_
  refine L1 ?_;refine Z58 ?_;refine R.fin [0,93,94,95] ?_
  refine AW.loopC (α:=Nat) (fun x=>⟨114,A7 0 (.ptr o 0) (A7 93 (.slice false 6 (e.kids.map A6)) (A7 94 (A5 (e.kids.length:Nat)) (A7 95 (A5 (x:Nat)) (fun _=>.any)))),Hp.set o (On (bs++(e.text++[40])++(Eb ((e.kids.take x).map Ab)).drop 2)),[],[],none⟩) (fun x=>x≤e.kids.length) (fun x=>e.kids.length-x) (0) (Nat.zero_le _) (StLe.of_eq (by simp [Eb])) rfl (fun x hx=>?_)
  refine Z2 ?_;refine R.fin [0,93,94,95,96] ?_
  refine W.condX (fun ht96=>?_) (fun ht96=>?_)
  ·have hlt:x<e.kids.length:=by simpa using ht96
   have hst:=g9 hlt
   have hsl1:=hsl (x+1)
   have hslx:=hsl x
   refine Z20 ?_;refine Z2 ?_
   refine R.go (h:=Q.indexAddr (x) (A6 e.kids[x]) (fun _=>C6 hlt)) (hr:=?_)
   refine R.go ?_;refine Z89 ?_;refine R.fin [0,6,7,93,94,95] ?_;refine Z11 ?_;refine R.fin [0,7,93,94,95,101] ?_
   refine W.cond (fun ht101=>?_) (fun ht101=>?_)
   ·have h0x:0<x:=by simpa using ht101
    rw [if_pos h0x] at hst
    have hstl:=congrArg List.length hst
    simp only [List.length_append,List.length_cons,List.length_nil] at hstl
    refine Z28 ?_
    refine R.callUp Tryz.call31 (getset ho) (by simp) Bs (c31 (bs++(e.text++[40])++(Eb ((e.kids.take x).map Ab)).drop 2) [44,32] (by simp only [Ec,List.length_append,List.length_cons,List.length_nil] at *;omega) o _ (A4 (getset ho))) ?_
    refine R.fin [0,7,93,94,95] ?_;refine K.thN ?_;refine Z17 ?_
    first|refine R.callUp Tryz.call137 (getset ho) (by simp) Bs (hev _ (List.getElem_mem hlt) o (bs++(e.text++[40])++(Eb ((e.kids.take x).map Ab)).drop 2) _ (A4 (getset ho)) (by simp only [Ec,List.length_append,List.length_cons,List.length_nil] at *;omega)) ?_|refine R.callUp Tryz.call137 (getset (getset ho)) (by simp) Bs (hev _ (List.getElem_mem hlt) o (bs++(e.text++[40])++(Eb ((e.kids.take x).map Ab)).drop 2++[44,32]) _ (A4 (getset (getset ho))) (by simp only [Ec,List.length_append,List.length_cons,List.length_nil] at *;omega)) ?_
    refine R.fin [0,93,94,95] ?_;refine Z13 ?_;refine Z17 ?_;refine R.fin [0,93,94,95] ?_;refine K.lpN (x+1) hlt (by omega) ?_
    simp only [hst,U7,List.append_assoc,List.append_nil]
    exact StCut.take (own:=[]) (fun _=>.refl _) (by repeat (first|exact Da|refine D9 (by first|exact Cy|exact Xv|(simp [or_imp,forall_and,oid]<;>omega)) ?_)) (by simp) (by simp)
   have h0x:¬0<x:=by simpa using ht101
   rw [if_neg h0x] at hst
   have hstl:=congrArg List.length hst
   simp only [List.length_append,List.length_cons,List.length_nil] at hstl
   refine Z6 ?_;refine Z17 ?_
   first|refine R.callUp Tryz.call137 (getset ho) (by simp) Bs (hev _ (List.getElem_mem hlt) o (bs++(e.text++[40])++(Eb ((e.kids.take x).map Ab)).drop 2) _ (A4 (getset ho)) (by simp only [Ec,List.length_append,List.length_cons,List.length_nil] at *;omega)) ?_|refine R.callUp Tryz.call137 (getset (getset ho)) (by simp) Bs (hev _ (List.getElem_mem hlt) o (bs++(e.text++[40])++(Eb ((e.kids.take x).map Ab)).drop 2++[44,32]) _ (A4 (getset (getset ho))) (by simp only [Ec,List.length_append,List.length_cons,List.length_nil] at *;omega)) ?_
   refine R.fin [0,93,94,95] ?_;refine Z13 ?_;refine Z17 ?_;refine R.fin [0,93,94,95] ?_;refine K.lpN (x+1) hlt (by omega) ?_
   simp only [hst,U7,List.append_assoc,List.append_nil]
   exact StCut.take (own:=[]) (fun _=>.refl _) (by repeat (first|exact Da|refine D9 (by first|exact Cy|exact Xv|(simp [or_imp,forall_and,oid]<;>omega)) ?_)) (by simp) (by simp)
  have hxe:e.kids.take x=e.kids:=List.take_of_length_le (by simp at ht96;omega)
  have hslx:=hsl x
  refine Z33 ?_;refine Z28 ?_
  refine R.callUp Tryz.call31 (getset ho) (by simp) Bs (c31 (bs++(e.text++[40])++(Eb ((e.kids.take x).map Ab)).drop 2) [41] (by simp only [Ec,List.length_append,List.length_cons,List.length_nil] at *;omega) o _ (A4 (getset ho))) ?_
  refine Z60 ?_;exact K.finN .nores ⟨rfl,by rw [pe,hxe]<;>simp⟩
 exfalso
 have h6:=kall
 simp at ht12 ht21 ht29 ht41 ht53 ht83
 omega

set_option maxRecDepth 8000
/-! How long a print is. -/
theorem Wj {v:Val} (hp:Ce v=true) (hi:jd v.n):(Dp v).length≤402:=by
 unfold Dp
 rw [hp]
 simp only [Bool.not_true,Bool.false_eq_true,if_false]
 split
 ·have:=Lib.itoa_length_le v.n hi.1 hi.2
  omega
 split
 ·rename_i h1 h2
  rw [M4]
  have h3:=Ti v.s
  have h4:v.s.length≤200:=by
   have k2:v.kind=2:=by simpa using h2
   simp [Ce,k2] at hp
   omega
  simp
  omega
 split
 ·simp
 split<;>simp
theorem Mv (k:Nat) (x:Expr) (s:Str):(Ht k x s).length≤s.length+2:=by
 unfold Ht
 split<;>simp
theorem U8 {t:Str} (h:0≤Ag t):t.length≤3:=by
 rcases G9 t with hm|⟨hm,_⟩
 ·have h3:(levels.flatten.all fun s=>decide (s.length≤3))=true:=by kernel_rfl
  exact of_decide_eq_true (List.all_eq_true.1 h3 t hm)
 omega
theorem Oo {t:Str} {n:Nat} (h:Az t=(n:Int)):t.length≤6:=by
 rcases Oi h with ⟨e,_⟩|⟨e,_⟩|⟨e,_⟩|⟨e,_⟩|⟨e,_⟩|⟨e,_⟩|⟨e,_⟩|⟨e,_⟩<;>rw [e]<;>decide
theorem ga {k:List Expr} (h:∀y∈k,(Ab y).length+10≤440*sizeE y):(Eb (k.map Ab)).length≤440*Cb k:=by
 induction k with
 | nil=>simp [Eb]
 | cons y r ih =>
  have h1:=h y List.mem_cons_self
  have h2:=ih (fun z hz=>h z (List.mem_cons_of_mem _ hz))
  simp only [List.map_cons,Eb,Cb,List.length_cons,List.length_append]
  omega
theorem Qe:∀(n:Nat) (e:Expr),sizeE e≤n→Ci Bj e=true→Ci Eo e=true→(Ab e).length+10≤440*sizeE e
 | 0,e,h,_,_=>by rw [K9] at h;omega
 | n+1,e,h,hn,hr=>by
  rw [E0,Bool.and_eq_true] at hn hr
  have hk:∀y∈e.kids,(Ab y).length+10≤440*sizeE y:=fun y hy=>by
   obtain ⟨i,hi⟩:=List.getElem?_of_mem hy
   obtain ⟨hlt,rfl⟩:=List.getElem?_eq_some_iff.1 hi
   exact Qe n _ (by have:=ea e hlt;omega) ((Ee _ _).1 hn.2 _ hy) ((Ee _ _).1 hr.2 _ hy)
  have hi:jd e.val.n:=by
   have:=hr.1
   simp only [Eo,Bool.and_eq_true,decide_eq_true_eq] at this
   exact this
  rw [K9]
  cases Jo hn.1 with
  | val v hp h0 =>
   rw [n6]
   have:=Wj hp (v:=v) hi
   simp only [F4,Expr.kids,Cb]
   omega
  | name t ht =>
   rw [kp]
   have:t.length≤16:=by
    cases t with
    | nil=>simp
    | cons c r =>
     simp only [Fc,Bool.and_eq_true,decide_eq_true_eq] at ht
     exact ht.1.1.1
   simp only [Bk,Expr.kids,Cb]
   omega
  | neg a =>
   rw [n7]
   have h1:=Mv 6 a (Ab a)
   have h2:=hk a (by simp [Cc,Expr.kids])
   simp only [Cc,Expr.kids,Cb,List.length_cons]
   omega
  | no a =>
   rw [qj]
   have h1:=Mv 2 a (Ab a)
   have h2:=hk a (by simp [Cc,Expr.kids])
   simp only [Cc,Expr.kids,Cb,List.length_cons,List.length_append,aa,List.length_nil]
   omega
  | bin t a b ht =>
   rw [n8]
   have h1:=Mv (Df (Ag t).toNat) a (Ab a)
   have h2:=Mv ((Ag t).toNat+1) b (Ab b)
   have h3:=hk a (by simp [Cp,Expr.kids])
   have h4:=hk b (by simp [Cp,Expr.kids])
   have h5:=U8 ht
   simp only [Cp,Expr.kids,Cb,List.length_cons,List.length_append]
   omega
  | call t k ha =>
   rw [kq]
   have h1:=Oo ha
   have h2:=ga (k:=k) hk
   rw [←Jq] at h2
   simp only [Expr.kids,List.length_cons,List.length_append,List.length_drop,List.length_nil]
   omega
theorem U9 {e:Expr} (hr:Cm e=true) (hg:Ci Eo e=true):(Ab e).length≤132000:=by
 have h1:=Jr hr
 have h2:sizeE e≤300:=by
  unfold Cm at hr
  simp only [Bool.and_eq_true,decide_eq_true_eq] at hr
  exact hr.1.2
 have:=Qe _ e (Nat.le_refl _) h1 hg
 omega
set_option maxRecDepth 4000
abbrev xo (own:Bool) (t:Str) (ks:List Expr):AObj:=.cells 69 [A5 6,A8 t,A5 0,A5 0,A8 [],.slice own 6 (ks.map A6)]
theorem nl {n:Nat} {own:Bool} {t:Str} {ks:List Expr}:ObjLow n (xo own t ks):=by
 show ∀z∈[A5 6,A8 t,A5 0,A5 0,A8 [],AV.slice own 6 (ks.map A6)],Low n z
 intro z hz
 simp only [List.mem_cons,List.not_mem_nil,or_false] at hz
 rcases hz with rfl|rfl|rfl|rfl|rfl|rfl
 all_goals first|exact Cy|simp
theorem l7:Cg (.agg #[.int .i64 0,.string ⟨#[]⟩,.int .i64 0,.int .i64 0,.string ⟨#[]⟩,.slice none 0 0])=.agg [A5 0,A8 [],A5 0,A5 0,A8 [],.nil]:=rfl
attribute [go_sem] l7
theorem gA {Hp:List AObj} {o ox:Nat} {z A B:AObj} (ho:Hp[o]? = some z) (hne:ox≠o):((Hp.set o A).set ox B)[o]? = some A:=by rw [List.getElem?_set_ne hne];exact getset ho
theorem gB {Hp:List AObj} {o ox:Nat} {z A B:AObj} (hox:Hp[ox]? = some z):((Hp.set o A).set ox B)[ox]? = some B:=by
 have:=(List.getElem?_eq_some_iff.1 hox).1
 simp [this]
theorem gb {Hp:List AObj} {o ox:Nat} {A A' B:AObj} (hne:ox≠o):((Hp.set o A).set ox B).set o A'=(Hp.set o A').set ox B:=by rw [List.set_comm _ _ hne,List.set_set]
theorem Ju (ks:List Expr) (x:Expr):ks.map A6++[.agg [.v (.int .i64 x.op),.v (sv x.text),.v (.int .i64 x.val.kind),.v (.int .i64 x.val.n),.v (sv x.val.s),.slice false 6 (x.kids.map A6)]]=(ks++[x]).map A6:=by rw [List.map_append,List.map_cons,List.map_nil,A9 x]
theorem t6 (l:List Tok) (S:PS) (t:Str) (Dv:Fam) (o ox:Nat) (Hp:List AObj) (hne:ox≠o) (ho:Hp[o]? = some (pr l S)) (hox:Hp[ox]? = some (xo true t [])) (hi:S.i<l.length) (hl:TokEnd l) (hll:l.length≤1048576) (hf:Bf l S.nest Dv.ei) (hcf:PC 215 l Dv.ei S.nest):ACall Tryz.prog 275 [.ptr ox 0,.ro [.ptr o 0]] Hp (fun r H'=>r=A6 (.mk 6 t noV (Dw l Dv.ei S).1)∧H'=(Hp.set o (pr l (Dw l Dv.ei S).2)).set ox (xo true t (Dw l Dv.ei S).1)):=by
 have hoxl:=(List.getElem?_eq_some_iff.1 hox).1
 have hol:=(List.getElem?_eq_some_iff.1 ho).1
 refine ACall.body [.cell 2 69] [0,1] Tryz.func275 Tryz.ntmps275 (fun d=>?_)
 refine Z15 ?_;refine R.fin [0,1,2] ?_
 refine W.drawT [0,1,0,4,3,0,63,127,255,127,639] [1,3] [.q 1 [] [0],.s [4] (some 0) [] [],.q 1 [] [1],.s [6] (some 1) [] [],.q 2 [] []] (fun B=>(Hp.set o (if B 1=true then pr l (Dv.ei S).2 else pr l S)).set ox (if B 0=true then xo false t [] else xo true t [])) (fun _=>[Gl]) Aa (by kernel_rfl) (by simp only [Bool.false_eq_true,if_false];rw [Dm ho,Dm hox]) rfl (fun B=>by simp) ?_
 apply Y.q
 case h1 =>
  intro B hT hF
  exact Z38
 case hTF=>decide
 refine Y.loadUpT (o:=ox) (t':=69) (cs:=[A5 6,A8 t,A5 0,A5 0,A8 [],.slice true 6 ([].map A6)]) (cs':=[A5 6,A8 t,A5 0,A5 0,A8 [],.slice false 6 ([].map A6)]) Tryz.isAgg45 (fun B hB=>⟨by simp only [hB];exact gB hox,by simp [upd,List.set_set]<;>rfl,rfl⟩) ?_
 apply Y.q
 case h1 =>
  intro B hT hF
  exact Z38
 case hTF=>decide
 refine Y.callUp (r:=A6 (Dv.ei S).1) (o:=o) (x0:=pr l S) (x:=pr l (Dv.ei S).2) Tryz.call215 (fun B hT hF hB=>⟨by simp only [hB];exact gA ho hne,?_,rfl,Bg,?_⟩) ?_
 ·simp only [upd,hB,Nat.reduceEqDiff,if_false,if_true,Bool.false_eq_true]
  exact (gb hne).symm
 ·simp only [hB]
  exact hcf o _ S (A4 (gA ho hne)) hi rfl
 apply Y.q
 case h1 =>
  intro B hT hF
  exact Z92
 case hTF=>decide
 refine Y.appendPut (tn:=[1,3]) (U:=(Hp.set o (pr l (Dv.ei S).2)).set ox (xo false t [])) (O:=[Gl]) (o:=ox) (t':=69) (cs:=[A5 6,A8 t,A5 0,A5 0,A8 [],.slice false 6 ([].map A6)]) (by kernel_rfl) jU Tryz.type69 Tryz.sizeOf69 Tryz.sizeOf45 jU (A4 (gB hox)) ?_ ?_ ?_ (hfsz:=Tryz.sizeOf45)
 ·simp [Tryz.t69]
 ·simp [Tryz.t69]
 refine R.go ?_
 refine R.storeUpT jS (gB hox) ?_ ?_
 ·first|(rw [Ju];exact Cy)|(have:=Cy (n:=((Hp.set o (pr l (Dv.ei S).2)).set ox (xo false t [])).length) (k:=6) (o:=true) (l:=[(Dv.ei S).1]);simp only [List.map_cons,List.map_nil,A9] at this;exact this)
 refine R.fin [0,1,2] ?_;refine W.seq ?_
 refine AW.loopC (α:=List Expr×PS) (fun r=>⟨34,A7 0 (.ptr ox 0) (A7 1 (.ro [.ptr o 0]) (A7 2 (.ptr (oid Hp.length 0) 0) (fun _=>.any))),(Hp.set o (pr l r.2)).set ox (xo true t r.1),[Gl],[],none⟩) (fun r=>ArgsAt l Dv.ei S r) (fun r=>l.length-r.2.i) (([(Dv.ei S).1],(Dv.ei S).2)) (.start (hf S hi rfl)) (StLe.of_eq (by simp [List.set_set,xo,A9])) rfl (fun r hx=>?_)
 refine Z58 ?_
 refine R.go (h:=Q.loadUp (gA ho hne)) (hr:=?_)
 refine Z88 ?_;refine G.call Tryz.call244 (fun hB=>Tr l r.2 Fv o _ (A4 (gA ho hne)) hx.fact.lt hl (by decide)) ?_;refine R.go ?_;refine R.fin [0,1,2,21] ?_
 refine W.cond (fun ht21=>?_) (fun ht21=>?_)
 ·have hon:=hx.on hl ht21 hf
  have hle:=hon.2.1.le
  have hlt0:=hx.fact.lt
  refine Z6 ?_;refine AW.block ?_;refine Z2 ?_;refine R.callUp Tryz.call245 (gA ho hne) (by simp) Bg (el l r.2 o _ (A4 (gA ho hne)) hx.fact.lt hll) ?_;refine R.fin [0,1,2] ?_
  refine W.drawT0 [0,1,0,4,3,0,63,127,255,127,639] [1,3] [.q 1 [] [0],.s [25] (some 0) [] [],.q 1 [] [1],.s [27] (some 1) [] [],.q 2 [] []] (fun B=>(Hp.set o (if B 1=true then pr l (Dv.ei (A3 r.2)).2 else pr l (A3 r.2))).set ox (if B 0=true then xo false t r.1 else xo true t r.1)) (fun _=>[Gl]) Aa (by kernel_rfl) (by simp only [Bool.false_eq_true,if_false];exact (gb hne).symm) rfl (fun B=>by simp) ?_
  apply Y.q
  case h1 =>
   intro B hT hF
   exact Z38
  case hTF=>decide
  refine Y.loadUpT (o:=ox) (t':=69) (cs:=[A5 6,A8 t,A5 0,A5 0,A8 [],.slice true 6 (r.1.map A6)]) (cs':=[A5 6,A8 t,A5 0,A5 0,A8 [],.slice false 6 (r.1.map A6)]) Tryz.isAgg45 (fun B hB=>⟨by simp only [hB];exact gB hox,by simp [upd,List.set_set]<;>rfl,rfl⟩) ?_
  apply Y.q
  case h1 =>
   intro B hT hF
   exact Z38
  case hTF=>decide
  refine Y.callUp (r:=A6 (Dv.ei (A3 r.2)).1) (o:=o) (x0:=pr l (A3 r.2)) (x:=pr l (Dv.ei (A3 r.2)).2) Tryz.call215 (fun B hT hF hB=>⟨by simp only [hB];exact gA ho hne,?_,rfl,Bg,?_⟩) ?_
  ·simp only [upd,hB,Nat.reduceEqDiff,if_false,if_true,Bool.false_eq_true]
   exact (gb hne).symm
  ·simp only [hB]
   exact hcf o _ (A3 r.2) (A4 (gA ho hne)) hon.1 hx.fact.nest
  apply Y.q
  case h1 =>
   intro B hT hF
   exact Z92
  case hTF=>decide
  refine Y.appendPut (tn:=[1,3]) (U:=(Hp.set o (pr l (Dv.ei (A3 r.2)).2)).set ox (xo false t r.1)) (O:=[Gl]) (o:=ox) (t':=69) (cs:=[A5 6,A8 t,A5 0,A5 0,A8 [],.slice false 6 (r.1.map A6)]) (by kernel_rfl) jU Tryz.type69 Tryz.sizeOf69 Tryz.sizeOf45 jU (A4 (gB hox)) ?_ ?_ ?_ (hfsz:=Tryz.sizeOf45)
  ·have:=hx.fact.len;have:=hx.fact.lt;simp only [List.length_map,Tryz.t69];omega
  ·have:=hx.fact.len;have:=hx.fact.lt;simp only [List.length_map,Tryz.t69];omega
  refine R.go ?_
  refine R.storeUpT jS (gB hox) ?_ ?_
  ·first|(rw [Ju];exact Cy)|(have:=Cy (n:=((Hp.set o (pr l (Dv.ei S).2)).set ox (xo false t [])).length) (k:=6) (o:=true) (l:=[(Dv.ei S).1]);simp only [List.map_cons,List.map_nil,A9] at this;exact this)
  refine R.fin [0,1,2] ?_;refine K.blN ?_
  refine K.lpN (r.1++[(Dv.ei (A3 r.2)).1],(Dv.ei (A3 r.2)).2) hon.2.2 (by show l.length-(Dv.ei (A3 r.2)).2.i<l.length-r.2.i;have:r.2.i+1≤(Dv.ei (A3 r.2)).2.i:=hle;omega) (StCut.of_eq ?_)
  simp only [show Tryz.t69.size=6 from rfl,Ju,List.set_set]
 have hout:=hx.out (by rw [ht21];simp)
 refine Z87 ?_;refine Dn ?_
 refine R.go (h:=Q.loadUpN (gB hox)) (hr:=?_)
 refine Z16 ?_;exact K.fin (V.one (V.cellN jA jS)) ⟨by rw [hout,Ru];rfl,by rw [hout]⟩ (hlow:=by have:=Ad Hp.length (.mk 6 t noV r.1);rw [Ru] at this;simpa using this)

/-- within, with the function that gathers a call's kids. -/
theorem qn (l:List Tok) (S:PS) (a:Int) (t:Str) (Dv:Fam) (o:Nat) (Hp:List AObj) (A0 A1:AObj) (l0:ObjLow 0 A0) (ho:Hp[o]? = some (pr l S)) (hi:S.i<l.length) (hl:TokEnd l) (hll:l.length≤1048576) (hnl:S.nest≤30) (hd:DeepC l Dv S.nest):
  ACall Tryz.prog 259 [.ptr o 0,A5 a,.fn (.func 275) [] [.ptr (oid Hp.length 2) 0,.ro [.ptr o 0]]] (Hp++[A0,A1,xo true t []]) (fun r H'=>r=A6 (if S.nest=30 then Ae else .mk 6 t noV (Dx l a Dv.ei S).1)∧H'=Hp.set o (pr l (Dx l a Dv.ei S).2)++[A0,A1,xo true t (Dx l a Dv.ei S).1]):=by
 have hlt:=(List.getElem?_eq_some_iff.1 ho).1
 have ho':(Hp++[A0,A1,xo true t []])[o]? = some (pr l S):=A4 ho
 by_cases h30:S.nest=30
 ·refine (k7 l S a 275 [] [.ptr (oid Hp.length 2) 0,.ro [.ptr o 0]] Ae (Ah S) o (Hp++[A0,A1,xo true t []]) ((Hp++[A0,A1,xo true t []]).set o (pr l (Ah S))) ho' (by omega) Tryz.call275 (by simp) (getset ho') rfl (fun h=>h) (fun h=>absurd h30 h)).mono fun r H' h=>?_
  have e:Dx l a Dv.ei S=([],Bu 18 a S):=if_pos (by rw [h30];rfl)
  rw [e,if_pos h30]
  obtain ⟨h1,h2⟩:=h.1 h30
  exact ⟨h1,by rw [h2,List.set_append_left _ _ hlt]⟩
 have hq:=Ny (S:=Ah S) hl hi (hd.ei h30).1
 refine (k7 l S a 275 [] [.ptr (oid Hp.length 2) 0,.ro [.ptr o 0]] (.mk 6 t noV (Dw l Dv.ei (Ah S)).1) (Dw l Dv.ei (Ah S)).2 o (Hp++[A0,A1,xo true t []]) (Hp.set o (pr l (Dw l Dv.ei (Ah S)).2)++[A0,A1,xo true t (Dw l Dv.ei (Ah S)).1]) ho' (by omega) Tryz.call275 (by simp) (A4 (getset ho)) hq.nest (fun h y hy=>?_) (fun _ own=>?_)).mono fun r H' h=>?_
 ·rw [List.set_append_left _ _ hlt] at h
  rcases List.mem_append.1 hy with hy|hy
  ·rcases List.mem_or_eq_of_mem_set hy with h1|h1
   ·obtain ⟨i,hi',rfl⟩:=List.getElem_of_mem h1
    by_cases hio:i=o
    ·subst hio
     have:Hp[i]=pr l S:=by rw [List.getElem?_eq_getElem hi'] at ho;injection ho
     rw [this];exact Bg
    refine h _ (List.mem_append_left _ ?_)
    rw [List.mem_iff_getElem?]
    exact ⟨i,by rw [List.getElem?_set_ne (Ne.symm hio),List.getElem?_eq_getElem hi']⟩
   rw [h1];exact Bg
  simp only [List.mem_cons,List.not_mem_nil,or_false] at hy
  rcases hy with rfl|rfl|rfl
  ·exact h _ (List.mem_append_right _ (by simp))
  ·exact h _ (List.mem_append_right _ (by simp))
  exact nl
 ·have hoid:oid Hp.length 2≠o:=by unfold oid;omega
  have e1:(Hp++[A0,A1,xo true t []]).set o (pr l (Ah S))++own=(Hp.set o (pr l (Ah S))++[A0,A1,xo true t []])++own:=by rw [List.set_append_left _ _ hlt]
  rw [e1]
  have g1:((Hp.set o (pr l (Ah S))++[A0,A1,xo true t []])++own)[o]? = some (pr l (Ah S)):=A4 (A4 (getset ho))
  have g2:((Hp.set o (pr l (Ah S))++[A0,A1,xo true t []])++own)[oid Hp.length 2]? = some (xo true t []):=A4 (by
   have:=B5 (U:=Hp.set o (pr l (Ah S))) (O:=[A0,A1,xo true t []]) (n:=2)
   rw [List.length_set] at this
   exact this)
  refine (t6 l (Ah S) t Dv o (oid Hp.length 2) _ hoid g1 g2 hi hl hll (hd.ei h30).1 (hd.ei h30).2).mono fun r H' h=>⟨h.1,h.2.trans ?_⟩
  rw [List.append_assoc,List.set_append_left _ _ (by simpa using hlt),List.set_set]
  have:=G7 (U:=Hp.set o (pr l (Dw l Dv.ei (Ah S)).2)) (O:=[A0,A1,xo true t []]++own) (n:=2) (x:=xo true t (Dw l Dv.ei (Ah S)).1)
  rw [List.length_set] at this
  rw [this]
  simp
 have e:Dx l a Dv.ei S=((Dw l Dv.ei (Ah S)).1,Q0 (Dw l Dv.ei (Ah S)).2):=if_neg (by
  show ¬(((S.nest:Int)==30)=true)
  simp
  omega)
 rw [e,if_neg h30]
 obtain ⟨h1,h2⟩:=h.2 h30
 exact ⟨h1,by rw [h2,List.set_append_left _ _ (by simpa using hlt),List.set_set]⟩
theorem t7 (l:List Tok) (S:PS) (Dv:Fam) (t:Tok) (o:Nat) (Hp:List AObj) (ho:Hp[o]? = some (pr l S)) (hi:(A3 S).i<l.length) (hl:TokEnd l) (hll:l.length≤1048576) (hnl:S.nest≤30) (hd:DeepC l Dv S.nest):ACall Tryz.prog 273 [.ptr o 0,Fg t] Hp (fun r H'=>r=A6 (D0 l Dv t S).1∧H'=Hp.set o (pr l (D0 l Dv t S).2)):=by
 have hi0:S.i<l.length:=by have:S.i+1<l.length:=hi;omega
 have hol:=(List.getElem?_eq_some_iff.1 ho).1
 have hkf:KFact l (A3 S) (Ar l Dv S):=Nz hl _ hi (fun h=>(hd.ei h).1)
 refine ACall.body [.cell 4 69] [0,1] Tryz.func273 Tryz.ntmps273 (fun d=>?_)
 refine Z1 ?_;refine R.alloc jZ ?_;refine R.fin [2,3,4] ?_;refine Z1 ?_;refine R.call Tryz.call145 (c145 t.text _) ?_;refine R.go ?_;refine R.fin [2,3,4,5] ?_;refine Z11 ?_;refine R.fin [2,3,4,5,12] ?_
 refine W.cond (fun ht12=>?_) (fun ht12=>?_)
 ·have hlt0:Az t.text<0:=by simpa using ht12
  have e:D0 l Dv t S=(Ae,Bu 9 t.at_ S):=if_pos hlt0
  refine Z18 ?_;refine R.callUp Tryz.call217 ho (by simp) Bg (Zx l S 9 t.at_ o _ (A4 ho)) ?_;refine Hs ?_;refine Z14 ?_;exact Z43
 have hge:¬Az t.text<0:=by simpa using ht12
 refine Rd ?_;refine R.callUp Tryz.call245 ho (by simp) Bg (el l S o _ (A4 ho) hi0 hll) ?_;refine Z10 ?_;refine R.fin [2,3,4,5,6] ?_;refine ot ?_;refine Z10 ?_;refine R.fin [2,3,4,5,6,7] ?_;refine Dn ?_;refine R.nilCell 2 5 6 ?_;refine Z9 ?_;refine R.makeFunc ?_
 refine R.callX (up':=(Hp.set o (pr l (A3 S))).set o (pr l (Ar l Dv S).2)) (own':=[Gl,.cells 59 [A5 (A2 l S.i).kind,A8 (A2 l S.i).text,A5 (A2 l S.i).at_],xo true t.text (Ar l Dv S).1]) Tryz.call259 (by have:=qn l (A3 S) (A2 l S.i).at_ t.text Dv o (Hp.set o (pr l (A3 S))) Gl (.cells 59 [A5 (A2 l S.i).kind,A8 (A2 l S.i).text,A5 (A2 l S.i).at_]) Xh (getset ho) hi hl hll hnl hd;rw [List.length_set] at this;exact this) (by simp) (fun h=>k9 h Bg) ?_
 refine R.fin [2,3,4,5,7] ?_;refine Z2 ?_;refine R.callUp Tryz.call274 (getset (getset ho)) (by simp) Bg (qd l (Ar l Dv S).2 C7 o _ (A4 (getset (getset ho))) hkf.lt hll) ?_;refine R.fin [2,3,4,5,7] ?_;refine Z58 ?_
 refine R.go (h:=Q.loadUp (getset (getset (getset ho)))) (hr:=?_)
 refine Z34 ?_;refine Z59 ?_;refine R.fin [2,3,4,7,41] ?_
 refine W.cond (fun ht41=>?_) (fun ht41=>?_)
 ·have e:D0 l Dv t S=(Ae,Bu 8 t.at_ (Bl l C7 (Ar l Dv S).2)):=by
   unfold D0
   rw [if_neg hge,if_pos (by have:=ht41;simp only [List.length_map] at this;exact this)]
  refine Z18 ?_;refine R.callUp Tryz.call217 (getset (getset (getset ho))) (by simp) Bg (Zx l (Bl l C7 (Ar l Dv S).2) 8 t.at_ o _ (A4 (getset (getset (getset ho))))) ?_;refine Hs ?_;refine Z14 ?_;refine K.thR ?_;exact K.fin (V.one (V.cellN jA jS)) ⟨by rw [e,A9],by rw [e,List.set_set,List.set_set,List.set_set]⟩ (hlow:=low_agg _)
 have e:D0 l Dv t S=(.mk 6 t.text noV (Ar l Dv S).1,(Bl l C7 (Ar l Dv S).2)):=by
  unfold D0
  rw [if_neg hge,if_neg (by have:=ht41;simp only [List.length_map] at this;rw [Bool.eq_false_iff] at this;exact this)]
 refine Rd ?_;refine Hs ?_;refine Z14 ?_;exact K.fin (V.one (V.cellN jA jS)) ⟨by rw [e,Ru];rfl,by rw [e,List.set_set,List.set_set]⟩ (hlow:=by have:=Ad Hp.length (.mk 6 t.text noV (Ar l Dv S).1);rw [Ru] at this;simpa using this)

theorem az {l:List Tok} (hl:TokEnd l) (hll:l.length≤1048576) (n:Nat) (Dv:Fam) (hn:n≤30) (hd:DeepC l Dv n):Ts l Dv n:=fun o Hp S t ho hi hS _ _=>by
 subst hS
 exact t7 l S Dv t o Hp ho hi hl hll hn hd
theorem Wk {e:Expr} (h:Bj e=true):e.text.length≤16∧e.kids.length≤8:=by
 cases Jo h with
 | val v hp h0=>exact ⟨by simp [F4,Expr.text],by simp [F4,Expr.kids]⟩
 | name t ht =>
  refine ⟨?_,by simp [Bk,Expr.kids]⟩
  show t.length≤16
  cases t with
  | nil=>simp
  | cons c r =>
   simp only [Fc,Bool.and_eq_true,decide_eq_true_eq] at ht
   exact ht.1.1.1
 | neg a=>exact ⟨by simp [Cc,Expr.text],by simp [Cc,Expr.kids]⟩
 | no a=>exact ⟨by simp [Cc,Expr.text],by simp [Cc,Expr.kids]⟩
 | bin t a b ht=>exact ⟨by have:=U8 ht;show t.length≤16;omega,by simp [Cp,Expr.kids]⟩
 | call t k ha =>
  refine ⟨by have:=Oo ha;show t.length≤16;omega,?_⟩
  show k.length≤8
  rcases Oi ha with ⟨_,e⟩|⟨_,e⟩|⟨_,e⟩|⟨_,e⟩|⟨_,e⟩|⟨_,e⟩|⟨_,e⟩|⟨_,e⟩<;>omega
theorem Qf:∀{l:List Expr} {y:Expr},y∈l→depthE y≤Ig l
 | a::r,y,h=>by
  rw [Ig]
  rcases List.mem_cons.1 h with rfl|h
  ·omega
  have:=Qf h
  omega
theorem Xx:∀(n:Nat) (e:Expr),depthE e≤n→Ci Bj e=true→okE n e
 | 0,e,h,_=>by rw [Q5] at h;omega
 | n+1,e,h,hn=>by
  rw [E0,Bool.and_eq_true] at hn
  rw [Q5] at h
  have hs:=Wk hn.1
  refine ⟨by omega,by omega,fun y hy=>Xx n y (by have:=Qf hy;omega) ((Ee _ _).1 hn.2 y hy)⟩
theorem Qg {e:Expr} (h:Cm e=true):okE 30 e∧sizeE e≤300:=by
 have h1:=Jr h
 unfold Cm at h
 simp only [Bool.and_eq_true,decide_eq_true_eq] at h
 exact ⟨Xx 30 e h.1.1 h1,h.1.2⟩
theorem t8 (n:Nat) (e:Expr) (hok:okE n e) (hn:n≤1048576) (hg:Ci Eo e=true) (Hp:List AObj):AFun Tryz.prog 101 [A6 e] Hp (.tup [A8 (Dz e).1,A5 (Dz e).2]):=by
 refine ACall.body [.tmp 2,.tmp 3] [0] Tryz.func101 Tryz.ntmps101 (fun d=>?_)
 refine Z18 ?_;refine R.fin [1] ?_;refine Z42 ?_;refine R.call Tryz.call70 (c70 n e hok hn _) ?_;refine R.go ?_;refine R.fin [1,7] ?_
 refine W.cond (fun ht7=>?_) (fun ht7=>?_)
 ·have hsh:Dz e=([],1):=if_pos ht7
  refine Z1 ?_;exact o7
 have hnr:¬(!(B0 e))=true:=by rw [ht7];simp
 have hr:Cm e=true:=by rw [←Hi];simpa using ht7
 have hps:=U9 hr hg
 refine Z6 ?_;refine Dn ?_;refine R.build (places:=#[(0,2)]) jU (fun w=>by simp) jZ ?_;refine R.box ?_;refine R.go ?_;refine R.fin [1,4] ?_;refine Dn ?_;refine R.toBld 0 160 5 ?_;refine Z0 ?_
 refine R.callOwn (n:=0) (x:=On (Ab e)) Tryz.call137 (sy n e hok (Jr hr) hg (oid Hp.length 0) [] _ (by rw [B5];rfl) (by simp only [Ec,List.length_nil];omega)) ?_
 refine R.fin [4] ?_;refine Z48 ?_
 refine R.call Tryz.call32 (c32 (Ab e) (oid Hp.length 0) _ (by rw [B5];rfl)) ?_
 refine R.go ?_;refine R.fin [4,17] ?_
 refine W.cond (fun ht17=>?_) (fun ht17=>?_)
 ·have hsh:Dz e=([],3):=by unfold Dz;rw [if_neg hnr,if_pos ht17]
  refine Z1 ?_;exact o7
 have hsh:Dz e=(Ab e,0):=by unfold Dz;rw [if_neg hnr,if_neg (by rw [ht17];simp)]
 refine Sv ?_
 refine R.callOwn (n:=0) (x:=.cells 160 [.any,.any]) Tryz.call33 (c33 (Ab e) (oid Hp.length 0) _ (by rw [B5];rfl)) ?_
 refine Z0 ?_;refine Z12 ?_;exact pm

/-! fuse.Forth and plan.Text. -/
/-! The text. -/
/-! ONE LINE EACH. -/
/-! How long plan.Text's pieces are. -/
theorem gc:liesAt Tryz.prog Tryz.prog.depth 74 (2 / Tryz.prog.cellsOf 74) 0 74 1=true:=by kernel_rfl
abbrev Ua (bs:Str):AObj:=.bld 74 5 bs
theorem gg {n:Nat} {bs:Str}:ObjLow n (Ua bs):=trivial
theorem tc (bs s:Str) (hl:bs.length+s.length≤140737488355328) (o:Nat) (Hp:List AObj) (ho:Hp[o]? = some (Ua bs)):
  ACall Tryz.prog 31 [.ptr o 0,A8 s] Hp (fun r H'=>r=.tup [A5 s.length,.v .nilIface]∧H'=Hp.set o (Ua (bs++s))):=by
 refine ACall.bldWrite ho (fun b p v w h=>?_)
 have hw:=bldWrite Tryz.lays166 l4 (T:=74) gc (by decide) b p v bs.length (Lib.byteCells bs) ⟨s.toArray⟩ w h (by rw [Cd];exact hl)
 rw [Cd,Lib.strCells_eq,←Lib.byteCells_append] at hw
 exact hw
theorem td (bs:Str) (o:Nat) (Hp:List AObj) (ho:Hp[o]? = some (Ua bs)):ACall Tryz.prog 33 [.ptr o 0] Hp (fun r H'=>r=A8 bs∧H'=Hp.set o (.cells 74 [.any,.any])):=
 ACall.bldString ho (fun b p v w h hc=>bldString (ρ:=Tryz.ren155) { Tryz.lays155 with } l4 (T:=74) b p v bs w h hc)
section
variable {O X U:List AObj} {i:Nat} {b y:AObj}
end
end Go.SX.Nb
namespace Go.SX
variable [GI:GlobInv]
open Classical
/-- An object that no memory holds: what is told of a state behind an operation that surely panics. -/
def b6:AObj:=.cells 0 [.agg [.agg []]]
def bot (b:Bool):List AObj:=if b then [b6] else []
theorem nn {G:Gh} {w:World} {i:Nat}:¬ObjRel G w i b6:=fun h=>by
 obtain ⟨u,_,hr⟩:=Gs (y:=.agg [.agg []]) (j:=0) h rfl
 cases hr with
 | agg _ _ vs hn h1 _=>exact absurd (h1 _ (List.mem_singleton.2 rfl)) (by simp [AV.one])
section
variable {P:Program} {d:Nat}
theorem StRel.bot {G:Gh} {st:St} {a:Act} {w:World} (h:StRel d G st a w) (hb:b6∈st.own):False:=by
 obtain ⟨i,hi⟩:=List.getElem?_of_mem (List.mem_append_right st.up hb)
 exact nn (h.heap.obj i _ hi)
theorem Mw {b:Bool} {l:List AObj} (h:b=true):b6∈l++bot b:=by subst h;exact List.mem_append_right _ (List.mem_singleton.2 rfl)
variable {sz:Nat} {dfs:List Nat} {rnd:Option Nat} {l0:List Oper} {up own:(Nat→Bool)→List AObj} {KP:List PanicEntry→St→Prop} {E:List Oper→(Nat→AV)→Prop} {S:List SegY} {l:List Oper} {fr:Nat→AV} {ty:TypeId} {pos:String} {aft:Array Edge} {s:Nat} {T F:List Nat}
/-- What stands behind the operation that panics never runs. -/
theorem Y.bot {W:List Nat} {o:Oper} (hb:∀B:Nat→Bool,(∀p∈T,B p=true)→b6∈own B) (h:ChainY P d l0 sz up own dfs rnd KP E S l (F0 (W.map fun s=>(s,.any)) fr)) (hg:o.guard=none:=by rfl):
  ChainY P d l0 sz up own dfs rnd KP E (.s W none T F::S) (o::l) fr:=by
 refine ⟨_,l,W.map fun s=>(s,.any),rfl,⟨?_,hg,fun B f hT _ _ _ G a w hr=>?_⟩,h⟩
 ·simp [Function.comp_def]
 exact (StRel.bot hr (hb B hT)).elim
theorem Y.endBot {tn:List Nat} {Q:St→Prop} (hb:b6∈own (fun p=>decide (p<tn.length))):ChainY P d l0 sz up own dfs rnd KP (fun l' f=>ARun P d l0.toArray l' ⟨sz,f,up (fun p=>decide (p<tn.length)),own (fun p=>decide (p<tn.length)),dfs,rnd⟩ Q) [] l fr:=
 fun G a w hr=>(StRel.bot hr hb).elim
/-- A call that surely panics. -/
theorem Y.callBad {f0:Operand} {g:FuncId} {xs:List Operand} {ats:Array TypeId} {first caps args:List AV} {pn:Nat} {up0 own0:List AObj} {pp:Value→List AObj→Prop} (hcall:∀args w,(callFunc g args).run P w=.ok (.enter g args) w)
  (hU:∀B:Nat→Bool,B pn=false→up B=up0∧own B=own0) (hA:ACallP P g args (up0++own0) (fun _ _=>False) pp)
  (hpp:∀x U O f,U.length=up0.length→(U++O).length=(up0++own0).length→pp x (U++O)→((∀x∈up0,ObjLow U.length x)→∀x∈U,ObjLow U.length x)∧(∀o∈dfs,(up0++own0)[o]? = some .defs→(U++O)[o]? = some .defs)∧KP (E3 x) ⟨sz,f,U,O,dfs,rnd⟩)
  (h:ChainY P d l0 sz up own dfs rnd KP E S l (A7 s .any fr))
  (hf0:Ac fr f0=.fn (.func g) first caps:=by exact sL0) (ha:first++xs.map (Ac fr)++caps=args:=by exact sL0):
  ChainY P d l0 sz up own dfs rnd KP E (.s [s] (some pn) T F::S) (⟨some s,.call ⟨.value f0,xs.toArray,ats⟩,ty,pos,aft,none⟩::l) fr:=by
 refine ⟨_,l,[(s,.any)],rfl,⟨rfl,rfl,fun B f _ _ hB hf G a w hr=>?_⟩,h⟩
 obtain ⟨e1,e2⟩:=hU B (hB pn rfl)
 rw [e1,e2] at hr ⊢
 have e:first++xs.map (Ac f)++caps=args:=by rw [V6 hf (fun x hx=>by simp [Op.operands,Call.operands,hx])];exact ha
 have e0:Ac f f0=.fn (.func g) first caps:=by rw [agr hf (by simp [Op.operands,Call.operands])];exact hf0
 have hev:St.ev ⟨sz,f,up0,own0,dfs,rnd⟩ f0=.fn (.func g) first caps:=e0
 have hfr:=hev ▸ hr.eval f0
 generalize hfv:a.eval f0=fv at hfr
 cases hfr with
 | fn _ _ _ _ va vc hna hnc h1 h2 =>
  have hxr:=Jz hr xs
  subst e
  refine Lt (by intro c h;cases h) (H8 hcall hfv) (hA d G w _ (by simp [hna,hnc]) (fun i y u hy hu=>?_) hr.heap hr.tags hr.top) ?_
  ·rw [List.append_assoc] at hy
   rw [Array.append_assoc] at hu
   rcases Nat.lt_or_ge i first.length with hi|hi
   ·rw [List.getElem?_append_left hi] at hy
    rw [Array.getElem?_append_left (by omega)] at hu
    exact (h1 i y u hy hu).lift
   rw [List.getElem?_append_right hi] at hy
   rw [Array.getElem?_append_right (by omega),hna] at hu
   rcases Nat.lt_or_ge (i-first.length) xs.length with hj|hj
   ·rw [List.getElem?_append_left (by simpa using hj)] at hy
    rw [Array.getElem?_append_left (by simpa using hj)] at hu
    exact (hxr _ y u hy hu).lift
   rw [List.getElem?_append_right (by simpa using hj)] at hy
   rw [Array.getElem?_append_right (by simpa using hj)] at hu
   simp only [List.length_map,List.size_toArray] at hy hu
   exact (h2 _ y u hy hu).lift
  rintro e w' (⟨v,G',y,H',rfl,hrep,hH,hT,hk,hlen,hpo⟩|⟨x,G',H',rfl,hH,hT,hk,hlen,hpo⟩)
  ·exact hpo.elim
  have hl':up0.length≤H'.length:=by rw [hlen];simp
  obtain ⟨U,hU'⟩:∃U,U=H'.take up0.length:=⟨_,rfl⟩
  obtain ⟨O,hO⟩:∃O,O=H'.drop up0.length:=⟨_,rfl⟩
  have e1':H'=U++O:=by rw [hU',hO];exact (List.take_append_drop _ _).symm
  have e2':U.length=up0.length:=by rw [hU'];simp;omega
  subst e1'
  obtain ⟨q1,q2,q3⟩:=hpp x U O f e2' hlen hpo
  have h3:=hr.called hH hT hk rfl e2' (fun o ho=>q2 o ho (hr.defsAt o ho)) (q1 (by rw [e2'];exact hr.low))
  exact .inr ⟨_,rfl,_,rfl,_,_,h3,hk.less (Nat.le_succ d),e2',rfl,rfl,rfl,q3⟩
/-- A panic, drawn. -/
theorem Y.panic {x:Operand} {t:TypeId} {vs:List Value} {pn:Nat} (hq:∀B:Nat→Bool,B pn=false→∀f,KP (E3 (.iface t (.agg vs.toArray))) ⟨sz,f,up B,own B,dfs,rnd⟩) (h:ChainY P d l0 sz up own dfs rnd KP E S l fr)
  (hx:Ac fr x=.iface t (.agg (vs.map .v)):=by exact sL0):
  ChainY P d l0 sz up own dfs rnd KP E (.s [] (some pn) T F::S) (⟨none,.panic x,ty,pos,aft,none⟩::l) fr:=by
 refine ⟨_,l,[],rfl,⟨rfl,rfl,fun B f _ _ hB hf G a w hr=>?_⟩,h⟩
 have hxr:=hr.eval x
 have hev:St.ev ⟨sz,f,up B,own B,dfs,rnd⟩ x=.iface t (.agg (vs.map .v)):=by
  show Ac f x=_
  rw [agr hf (by simp [Op.operands])];exact hx
 rw [hev] at hxr
 refine ⟨fun _ _=>trivial,?_⟩
 rw [Oper.semAt_eq _ _ _ (by intro c h;cases h)]
 have he:(execOp a.eval ⟨none,.panic x,ty,pos,aft,none⟩).run P w=.halt (.panic (.iface t (.agg vs.toArray))) w:=by
  show ((do let v ←Instr.panic (a.eval x);pure (.value v)):Sem Next).run P w=_
  rw [Ng hxr]
  rfl
 rw [he]
 exact ⟨_,rfl,G,_,hr,Keep.refl _ _ _,rfl,rfl,rfl,rfl,hq B (hB pn rfl) f⟩
theorem Fk {U O A B:List AObj} (hl:U.length=A.length) (h:U++O=A++B):A=U∧B=O:=List.append_inj h.symm hl.symm
theorem As {U O A B:List AObj} {o:Nat} {x:AObj} (hl:U.length=A.length) (ho:o<A.length) (h:U++O=(A++B).set o x):A.set o x=U∧B=O:=by
 rw [List.set_append_left _ _ ho] at h
 exact List.append_inj h.symm (by simpa using hl.symm)
end
section
variable {P:Program} {d:Nat} {ops:Array Oper}
/-- A call that surely panics. -/
theorem RK.callBad {sz s:Nat} {fr:Nat→AV} {up own:List AObj} {dfs:List Nat} {rnd:Option Nat} {ty:TypeId} {pos:String} {aft:Array Edge} {rest:List Oper} {K:Exit→St→Prop} {f:Operand} {g:FuncId} {xs:List Operand} {ats:Array TypeId} {first caps args:List AV} {pp:Value→List AObj→Prop}
  (hcall:∀args w,(callFunc g args).run P w=.ok (.enter g args) w) (h:ACallP P g args (up++own) (fun _ _=>False) pp)
  (hpp:∀x U O,U.length=up.length→(U++O).length=(up++own).length→pp x (U++O)→((∀x∈up,ObjLow U.length x)→∀x∈U,ObjLow U.length x)∧(∀o∈dfs,(up++own)[o]? = some .defs→(U++O)[o]? = some .defs)∧K (.panic (E3 x)) ⟨sz,fr,U,O,dfs,rnd⟩)
  (hf:Ac fr f=.fn (.func g) first caps:=by exact sL0) (ha:first++xs.map (Ac fr)++caps=args:=by exact sL0) (hs:Nat.blt s sz=true:=by rfl):
  ARunK P d ops (⟨some s,.call ⟨.value f,xs.toArray,ats⟩,ty,pos,aft,none⟩::rest) ⟨sz,fr,up,own,dfs,rnd⟩ K:=RK.callV hcall h (fun _ _ _ _ _ h=>h.elim) hpp hf ha hs
theorem AW.upEq {c:Code} {sz:Nat} {fr:Nat→AV} {up up' own:List AObj} {dfs:List Nat} {rnd:Option Nat} {K:Exit→St→Prop} (e:up=up') (h:AW P d c ⟨sz,fr,up',own,dfs,rnd⟩ K):AW P d c ⟨sz,fr,up,own,dfs,rnd⟩ K:=e ▸ h
end
end Go.SX
namespace Go.SX
variable [GI:GlobInv]
open Classical
section
variable {P:Program} {d:Nat} {st:St} {ty:TypeId} {pos:String} {aft:Array Edge} {gd:Option (Nat×Bool)}
/-- A variable of its own, not laid yet. -/
theorem AOp.allocP {t:TypeId} {z:Value} {k s:Nat} (hz:∀w,(zeroValue t).run P w=.ok z w) (hk:z.cells.size=k) (hs:s<st.sz):
  AOp P d ⟨some s,.alloc t,ty,pos,aft,gd⟩ st (·=st.set s (.cellp k)):=by
 subst hk
 intro G a w h Q'
 let G':Gh:={ G with tag:=fun b o=>if b=w.heap.size∧o<z.cells.size then .tail (.slot d s) else G.tag b o }
 have hfree:∀o,G.tag w.heap.size o=.free:=fun o=>Co h.tags _ o (Nat.le_refl _)
 have hne:∀b o,G.tag b o≠.free→¬(b=w.heap.size∧o<z.cells.size):=fun b o hb hc=>by rw [hc.1] at hb;exact hb (hfree o)
 have hkeep:∀b o,G.tag b o≠.free→G'.tag b o=G.tag b o:=fun b o hb=>by simp only [G'];rw [if_neg (hne b o hb)]
 have hcell:∀b o,G.tag b o≠.free→(w.alloc (.cells z.cells t)).cell? ⟨b,o,none⟩=w.cell? ⟨b,o,none⟩:=fun b o hb=>by
  refine World.cell?_alloc_old _ _ _ ?_
  show b≠w.heap.size
  rintro rfl
  exact hb (hfree o)
 have T:Turn G w G' (w.alloc (.cells z.cells t)):=by
  refine ⟨fun b o hb=>⟨by rw [hkeep b o (by rw [hb];simp)];exact hb,hcell b o (by rw [hb];simp)⟩,fun b o L hb=>by rw [hkeep b o (by rw [hb];simp)];exact hb,fun b o i hb=>by rw [hkeep b o (by rw [hb];simp)];exact hb,Nat.le_refl _,fun o ho=>rfl,rfl,rfl,rfl,by simp,Still.alloc _ (fun b o hb=>.inl (by simp only [G'];rw [if_neg (by omega)])) (fun i hi=>.inl ⟨hi,rfl⟩)⟩
 have h1:StRel d G' st a (w.alloc (.cells z.cells t)):=by
  refine h.turn (U:=st.up) (O:=st.own) T ⟨fun i x hx=>T.objRel ?_ ?_ (h.heap.obj i x hx) (fun b hb=>?_),h.heap.n,h.heap.inj⟩ rfl h.defsAt ⟨fun b o hb=>?_,fun b o i hb=>?_,fun b o L hb=>?_,h.tags.globKeep T.old⟩ h.low
  ·rw [h.heap.n];exact (List.getElem?_eq_some_iff.1 hx).1
  ·have:=(h.heap.obj i x hx).blt
   show (w.heap.push _)[G.blk i]? = _
   rw [Array.getElem?_push,if_neg (by omega)]
  ·have:=hb.lt
   show (w.heap.push _)[b]? = _
   rw [Array.getElem?_push,if_neg (by omega)]
  ·simp only [G'] at hb
   split at hb
   ·rename_i hc
    obtain ⟨rfl,hlt⟩:=hc
    exact ⟨z.cells[o],by rw [World.cell?_alloc_new];exact Array.getElem?_eq_getElem hlt⟩
   rw [hcell b o hb]
   exact h.tags.ex b o hb
  ·simp only [G'] at hb
   split at hb
   ·cases hb
   rw [World.frozen?_alloc_old]
   ·exact h.tags.obj b o i hb
   show b≠w.heap.size
   rintro rfl
   rw [hfree] at hb;cases hb
  simp only [G'] at hb
  split at hb
  ·rename_i hc
   obtain ⟨rfl,hlt⟩:=hc
   exact World.frozen?_alloc_new _ _ _ _
  rw [World.frozen?_alloc_old]
  ·exact h.tags.tail b o L hb
  show b≠w.heap.size
  rintro rfl
  rw [hfree] at hb;cases hb
 have hrun:(execOp a.eval (⟨some s,.alloc t,ty,pos,aft,gd⟩:Oper)).run P w=.ok (.value (.pointer (some ⟨w.heap.size,0,none⟩))) (w.alloc (.cells z.cells t)):=by
  simp [execOp,Instr.alloc,hz,newVar,newRow]
 refine Bz (by intro c h;cases h) hrun ⟨G',_,h1.put (s:=s) (y:=.cellp z.cells.size) hs ?_,T.keep d,rfl,rfl,rfl,rfl⟩
 exact .cellp _ _ _ ⟨_,rfl,fun o ho=>by simp [G',ho]⟩

/-- It is laid: from now on nobody writes it. -/
theorem AOp.storeP {t:TypeId} {x:Operand} {r k:Nat} {y:AV} (hsz:∀w,(sizeOf t).run P w=.ok k w) (hf:st.fr r=.cellp k) (hx:st.ev x=y) (hk:y.cells.length=k) (hk0:0<k) (h1:y.cells.all AV.one=true):
  AOp P d ⟨none,.store t (.tmp r) x,ty,pos,aft,gd⟩ st (·=st.set r (.ro y.cells)):=by
 intro G a w h Q'
 have hone:∀c∈y.cells,c.one=true:=fun c hc=>List.all_eq_true.1 h1 c hc
 obtain ⟨hc,hcc⟩:=(hx ▸ h.eval x).cells hone
 have hsl:=h.slots r
 rw [hf] at hsl
 generalize hv:a.tmps.getD r undef=v at hsl
 cases hsl with
 | cellp l k b ho =>
  obtain ⟨L,hL,ht⟩:=ho
  injection hL with hL
  subst hL
  let us:=(a.eval x).cells.toList
  have hul:us.length=k:=by simp only [us,Array.length_toList];omega
  have huone:∀u∈us,u.oneCell'=true:=fun u hu=>by
   obtain ⟨j,hj⟩:=List.getElem?_of_mem hu
   have hj':(a.eval x).cells[j]? = some u:=by rw [←Array.getElem?_toList];exact hj
   have hlt:j<y.cells.length:=by rw [←hc];exact (Array.getElem?_eq_some_iff.1 hj').1
   exact (hcc j _ u (List.getElem?_eq_getElem hlt) hj').one (hone _ (List.getElem_mem hlt))
  have hrun0:=run_storeCells_cells (P:=P) b 0 us 0 w (fun j hj=>by
    obtain ⟨u,hu⟩:=h.tags.ex b j (by rw [ht j (by omega)];simp)
    simp only [Nat.add_zero,Nat.zero_add];rw [hu];rfl) (fun j hj=>by simpa using h.tags.tail _ _ _ (ht j (by omega))) huone
  simp only [Nat.add_zero] at hrun0
  let W:=w.setCells b 0 us
  let G':Gh:={ G with tag:=fun b' o=>if b'=b∧o<k then .fix else G.tag b' o }
  have htag:∀b' o,G.tag b' o≠.tail (.slot d r)→G'.tag b' o=G.tag b' o:=fun b' o hb=>by
   simp only [G']
   rw [if_neg]
   rintro ⟨rfl,ho⟩
   exact hb (ht o ho)
  have hout:∀b' o,¬(b'=b∧o<k)→W.cell? ⟨b',o,none⟩=w.cell? ⟨b',o,none⟩:=fun b' o hn =>
   World.cell?_setCells_out _ us 0 w ⟨b',o,none⟩ (fun hb _=>by
    simp only at hb ⊢
    exact .inr (Nat.le_of_not_lt fun h''=>hn ⟨hb,by omega⟩))
  have hcell:∀b' o,G.tag b' o≠.tail (.slot d r)→W.cell? ⟨b',o,none⟩=w.cell? ⟨b',o,none⟩:=fun b' o hb=>hout b' o (fun hn=>hb (by rw [hn.1];exact ht o hn.2))
  have hnb:∀i,i<G.n→G.blk i≠b:=Ho h.heap h.tags (ht 0 hk0)
  have hheap:∀b',b'≠b→W.heap[b']? = w.heap[b']? := fun b' hb=>Bq _ _ _ _ _ hb
  have hsize:W.heap.size=w.heap.size:=Bp _ _ _ _
  have hstill:Still G w G' W:=Still.tags (fun b' hb'=>hheap b' (fun e=>F9 (ht 0 hk0) (e ▸ hb'))) (Nat.le_of_eq hsize.symm) (fun b' o _=>by
   by_cases hc:b'=b∧o<k
   ·exact .inr ⟨_,by rw [hc.1];exact ht o hc.2⟩
   exact .inl (by simp only [G'];rw [if_neg hc])) (fun i hi=>.inl ⟨hi,rfl⟩)
  have hfix:∀b' o,G.tag b' o=.fix→G'.tag b' o=.fix∧W.cell? ⟨b',o,none⟩=w.cell? ⟨b',o,none⟩:=fun b' o hb=>⟨by rw [htag b' o (by rw [hb];simp)];exact hb,hcell b' o (by rw [hb];simp)⟩
  have htail:∀b' o L,L≠.slot d r→G.tag b' o=.tail L→G'.tag b' o=.tail L:=fun b' o L hL hb=>by
   rw [htag b' o (by rw [hb];intro e;injection e with e;exact hL e)];exact hb
  have hobj:∀b' o i,G.tag b' o=.obj i→G'.tag b' o=.obj i:=fun b' o i hb=>by rw [htag b' o (by rw [hb];simp)];exact hb
  have hrep:∀{l:Option Loc} {z:AV} {u:Value},l≠some (.slot d r)→Rep G w l z u→Rep G' W l z u:=fun hl hz =>
   hz.mono (G':=G') hfix (Nat.le_refl _) (fun _ _=>rfl) (fun L hL b' o ht'=>htail b' o L (fun e=>hl (by rw [hL,e])) ht')
  have hkeep:Keep d G w G' W:=⟨hfix,fun b' o e s he ht'=>htail b' o _ (by rintro ⟨⟩;omega) ht',Nat.le_refl _,fun _ _=>rfl,Dj _ _ _ _,Cu _ _ _ _,C3 _ _ _ _,Nat.le_of_eq hsize.symm,hstill⟩
  have hvec:∀j u,us[j]? = some u→W.cell? ⟨b,j,none⟩=some u:=fun j u hu=>by
   have hj:=(List.getElem?_eq_some_iff.1 hu).1
   have hex:∃u',w.cell? ⟨b,j,none⟩=some u':=h.tags.ex b j (by rw [ht j (by omega)];simp)
   obtain ⟨u',hu'⟩:=hex
   have hbk:∃vs e fz,w.heap[b]? = some (.cells vs e fz):=by
    simp only [World.cell?] at hu'
    split at hu'
    ·rename_i vs e fz hb;exact ⟨vs,e,fz,hb⟩
    cases hu'
   obtain ⟨vs,e,fz,hbk⟩:=hbk
   have hlen:0+us.length≤vs.size:=by
    rw [hul,Nat.zero_add]
    rcases Nat.lt_or_ge vs.size k with h'|h'
    ·exfalso
     obtain ⟨u2,hu2⟩:=h.tags.ex b vs.size (by rw [ht _ h'];simp)
     simp [World.cell?,hbk] at hu2
    exact h'
   obtain ⟨vs',b1,b2,b3⟩:=Fs b e fz us 0 w vs hbk hlen
   have b3':=b3 j
   rw [if_pos (by omega)] at b3'
   show (w.setCells b 0 us).cell? ⟨b,j,none⟩=some u
   simp only [World.cell?,b1]
   rw [b3',Nat.sub_zero]
   exact hu
  have hst:StRel d G' (st.set r (.ro y.cells)) a W:=by
   refine ⟨h.size,fun s=>?_,⟨fun i z hz=>?_,h.heap.n,h.heap.inj⟩,h.defs,h.defsAt,h.defsNodup,h.defsGe,⟨fun b' o hb=>?_,fun b' o i hb=>?_,fun b' o L hb=>?_,h.tags.globKeep hstill⟩,h.rnd,h.low,h.top⟩
   ·show Rep G' W _ (A7 r (.ro y.cells) st.fr s) _
    unfold A7
    by_cases hs:s=r
    ·subst hs
     rw [if_pos rfl,hv]
     refine .ro _ _ ⟨b,0,none⟩ (fun j=>(a.eval x).cells.getD j undef) rfl hone (fun j c hj=>?_) (fun j c hj=>?_)
     all_goals
      have hlt:j<y.cells.length:=(List.getElem?_eq_some_iff.1 hj).1
      have hu:(a.eval x).cells[j]? = some ((a.eval x).cells[j]'(by omega)):=Array.getElem?_eq_getElem _
      have e1:(a.eval x).cells.getD j undef=(a.eval x).cells[j]'(by omega):=by rw [Array.getD_eq_getD_getElem?,hu];rfl
      rw [e1]
     ·refine ⟨by simp only [G',Nat.zero_add];rw [if_pos ⟨trivial,by omega⟩],?_⟩
      rw [Nat.zero_add]
      exact hvec j _ (by simp only [us];rw [Array.getElem?_toList];exact hu)
     exact hrep (by simp) (hcc j c _ hj hu)
    rw [if_neg hs]
    exact hrep (by simp;exact fun e=>hs e) (h.slots s)
   ·have hob:=h.heap.obj i z hz
    have hi:i<G.n:=by rw [h.heap.n];exact (List.getElem?_eq_some_iff.1 hz).1
    have hb:=hheap (G.blk i) (hnb i hi)
    cases z with
    | cells t cs =>
     obtain ⟨vs,a1,a2,a3,a4⟩:=hob
     exact ⟨vs,hb.trans a1,a2,fun j y u p q=>hrep (by simp) (a3 j y u p q),fun j hj=>hobj _ _ _ (a4 j hj)⟩
    | loop sta pd fr sz ps asg bd df =>
     obtain ⟨fn,tmps,a1,a2,a3,a4⟩:=hob
     exact ⟨fn,tmps,hb.trans a1,a2,fun s=>hrep (by simp) (a3 s),a4⟩
    | defs=>exact hb.trans hob
    | dead=>exact hb.trans hob
    | bld t e bs=>exact BldRel.turn hob rfl (fun b' o ho=>hobj b' o i ho) hb (fun b' ha=>hheap b' (fun e=>by
      have:=ha.tag h.tags (o:=0) (by rw [e,ht 0 hk0];simp)
      rw [e,ht 0 hk0] at this;cases this))
    | gone =>
     obtain ⟨vs,t,fz,a1,a2⟩:=hob
     exact ⟨vs,t,fz,hb.trans a1,fun j hj=>(hfix _ _ (a2 j hj)).1⟩
   ·by_cases hc:b'=b∧o<k
    ·obtain ⟨rfl,ho⟩:=hc
     exact ⟨us[o]'(by omega),hvec o _ (List.getElem?_eq_getElem _)⟩
    rw [hout b' o hc]
    simp only [G',if_neg hc] at hb
    exact h.tags.ex b' o hb
   ·rw [World.frozen?_setCells]
    simp only [G'] at hb
    split at hb
    ·cases hb
    exact h.tags.obj b' o i hb
   rw [World.frozen?_setCells]
   simp only [G'] at hb
   split at hb
   ·cases hb
   exact h.tags.tail b' o L hb
  have hrun:(execOp a.eval (⟨none,.store t (.tmp r) x,ty,pos,aft,gd⟩:Oper)).run P w=.ok .skip W:=
   Dk hsz (show a.eval (.tmp r)=_ from hv) (by omega) hrun0
  exact Dt (by intro c h;cases h) hrun ⟨G',_,hst,hkeep,rfl,rfl,rfl,rfl⟩
end
section
variable {P:Program} {d:Nat} {sz:Nat} {dfs:List Nat} {rnd:Option Nat} {l0:List Oper} {up own:(Nat→Bool)→List AObj} {KP:List PanicEntry→St→Prop} {E:List Oper→(Nat→AV)→Prop} {S:List SegY} {l:List Oper} {fr:Nat→AV} {ty:TypeId} {pos:String} {aft:Array Edge} {s:Nat} {T F:List Nat}
theorem Y.allocP {t:TypeId} {z:Value} {k:Nat} (hz:∀w,(zeroValue t).run P w=.ok z w) (h:ChainY P d l0 sz up own dfs rnd KP E S l (A7 s (.cellp k) fr)) (hk:z.cells.size=k:=by rfl) (hs:Nat.blt s sz=true:=by rfl):
  ChainY P d l0 sz up own dfs rnd KP E (.s [s] none T F::S) (⟨some s,.alloc t,ty,pos,aft,none⟩::l) fr:=by
 refine ⟨_,l,[(s,.cellp k)],rfl,⟨rfl,rfl,fun B f _ _ _ hf=>.of ?_⟩,h⟩
 exact AOp.allocP (st:=⟨sz,f,up B,own B,dfs,rnd⟩) hz hk (by simpa using hs)
theorem Y.storeP {t:TypeId} {x:Operand} {r k:Nat} {y:AV} {ys:List AV} (hsz:∀w,(Go.sizeOf t).run P w=.ok k w) (h:ChainY P d l0 sz up own dfs rnd KP E S l (A7 r (.ro ys) fr))
  (hf:fr r=.cellp k:=by exact sL0) (hx:Ac fr x=y:=by exact sL0) (hc:y.cells=ys:=by exact sL0)
  (hk:ys.length=k:=by rfl) (hk0:0<k:=by decide) (h1:ys.all AV.one=true:=by exact sL2):
  ChainY P d l0 sz up own dfs rnd KP E (.s [r] none T F::S) (⟨none,.store t (.tmp r) x,ty,pos,aft,none⟩::l) fr:=by
 subst hc
 refine ⟨_,l,[(r,.ro y.cells)],rfl,⟨rfl,rfl,fun B f _ _ _ hfr=>.of ?_⟩,h⟩
 have e:f r=fr r:=hfr r (by simp [lk,N7,Op.operands])
 have ex:Ac f x=y:=by rw [agr hfr (by simp [Op.operands])];exact hx
 exact AOp.storeP (st:=⟨sz,f,up B,own B,dfs,rnd⟩) hsz (e.trans hf) ex hk hk0 h1
end
end Go.SX
