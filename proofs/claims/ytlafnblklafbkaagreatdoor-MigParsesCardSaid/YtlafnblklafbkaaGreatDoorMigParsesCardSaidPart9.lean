/- On the way (part 9). -/
import Derived.Shelf.Strings.Builder1
import Derived.Lib.ItoaLen
import Derived.Test.YtlafnblklafbkaaGreatDoorMigParsesCardSaidPart8
set_option linter.all false
namespace Go.SX.Nb
open Go Go.SX Go.Proofs
variable [ErrAt]
set_option maxRecDepth 4000
theorem im {α β:Type} {f:α→β} {l:List α} {x:Nat} (h:x<l.length):(l.take (x+1)).map f=(l.take x).map f++[f l[x]]:=by
 rw [Ld h,Cu];rfl
def Vq {α:Type} (p:α→Bool) (l:List α):Int:=if l.any p then (l.findIdx p:Int) else -1
theorem AGi {α:Type} {p:α→Bool} {l:List α} {i:Nat} (h:i<l.length) (hn:p l[i]=true) (hp:∀(j:Nat) (y:α),j<i→l[j]? = some y→p y=false):(i:Int)=Vq p l:=by
 unfold Vq
 rw [if_pos (Zu.2 ⟨_,D4 h,hn⟩)]
 congr 1
 refine (List.findIdx_eq h |>.2 ⟨hn,fun j hj=>?_⟩).symm
 exact hp j (l[j]'(by omega)) hj (Ak (by omega))
theorem wm {α:Type} {p:α→Bool} {l:List α} (h:l.any p=false):(-1:Int)=Vq p l:=by
 unfold Vq
 rw [if_neg (by rw [h];simp)]
theorem ACf {α:Type} (p:α→Bool) (l:List α):decide (0≤Vq p l)=l.any p:=by
 unfold Vq
 cases l.any p<;>simp
def Ru (s:Str):Bool := !(Ej s)
def Ox (e:Expr):Bool := !(Da e)
theorem AGj {m:Mov} (h:(((m.ahead.length:Int) != (m.give.length:Int)) || ((m.back.length:Int) != (m.take.length:Int)))=true):Ew m=false:=if_pos h
theorem AGk {m:Mov} (h:(((m.ahead.length:Int) != (m.give.length:Int)) || ((m.back.length:Int) != (m.take.length:Int)))=false):Ew m=if m.kind==1 then ((m.take.length:Int)==0)&&((m.give.length:Int)==1)
 else if m.kind==2 then ((m.take.length:Int)==1)&&((m.give.length:Int)==0)
 else if (m.kind==3) || (m.kind==6) then ((m.take.length:Int)==1)&&((m.give.length:Int)==1)
 else if m.kind==4 then ((m.take.length:Int)==1)&&decide ((1:Int)<(m.give.length:Int))
 else if m.kind==5 then decide ((1:Int)<(m.take.length:Int))&&((m.give.length:Int)==1)
 else false:=if_neg (by rw [h];simp)
theorem c66 (m:Mov) (Hp:List AObj):AFun Tryz.prog 66 [K5 m] Hp (Bz (Ew m)):=by
 refine B0 [.tmp 2] [0] Tryz.func66 Tryz.ntmps66 (fun d=>?_)
 refine Z90 ?_;refine Gb [0,1,3,0,8,24,7,127] 7 Af (by kernel_rfl) ?_;refine Z85 ?_;refine Z19 ?_;refine Er ?_;refine A3 ?_;refine A2 [1,3,4] ?_;refine Z71 ?_
 simp only [Bh]
 refine Z67 ?_;refine Z48 ?_;refine Z55 ?_;refine A2 [1,3,4,22] ?_
 refine A6 (fun ht22=>?_) (fun ht22=>?_)
 ·simp only [Bh] at ht22
  have hm:=AGj ht22
  refine Z20 ?_;refine Dd ?_;exact Ab (Ao Ag) ⟨by rw [hm],rfl⟩
 simp only [Bh] at ht22
 have hn:=AGk ht22
 refine Z4 ?_;refine Z9 ?_;refine A2 [3,4,24] ?_;refine Z84 ?_;refine A2 [3,4,24,25] ?_
 refine A6 (fun ht25=>?_) (fun ht25=>?_)
 ·refine ee ?_;refine ug ?_;exact Ab (Ao Ag) ⟨by rw [hn];first|(simp only [ht22,ht25,hk3,hk6,Kv,Gy,M6,Oj,if_true,if_false,B1,↓reduceIte]<;>rfl)|(simp only [ht22,ht25,hk3,Kv,Gy,M6,if_true,if_false,B1,↓reduceIte]<;>rfl)|(simp only [ht22,ht25,if_true,if_false,B1,↓reduceIte]<;>rfl),rfl⟩
 refine Z1 ?_;refine A2 [3,4,24,33] ?_
 refine A6 (fun ht33=>?_) (fun ht33=>?_)
 ·refine ee ?_;refine ug ?_;exact Ab (Ao Ag) ⟨by rw [hn];first|(simp only [ht22,ht25,ht33,hk3,hk6,Kv,Gy,M6,Oj,if_true,if_false,B1,↓reduceIte]<;>rfl)|(simp only [ht22,ht25,ht33,hk3,Kv,Gy,M6,if_true,if_false,B1,↓reduceIte]<;>rfl)|(simp only [ht22,ht25,ht33,if_true,if_false,B1,↓reduceIte]<;>rfl),rfl⟩
 refine Z9 ?_;refine A2 [3,4,24,41] ?_
 refine A6 (fun ht41=>?_) (fun ht41=>?_)
 ·have hk3:=ht41
  refine Z4 ?_
  refine A6 (fun ht41=>?_) (fun ht41=>?_)
  ·refine ee ?_;refine Z54 ?_;exact Z37
  rw [hk3] at ht41;cases ht41
 have hk3:=ht41
 refine Z21 ?_;refine A2 [3,4,24,41] ?_;refine Ig ?_
 refine A6 (fun ht41=>?_) (fun ht41=>?_)
 ·have hk6:=ht41
  refine ee ?_;refine Z54 ?_;exact Z37
 have hk6:=ht41
 refine Z1 ?_;refine A2 [3,4,24,50] ?_
 refine A6 (fun ht50=>?_) (fun ht50=>?_)
 ·refine ee ?_;refine ug ?_;exact Ab (Ao Ag) ⟨by rw [hn];first|(simp only [ht22,ht25,ht33,ht41,ht41,ht50,hk3,hk6,Kv,Gy,M6,Oj,if_true,if_false,B1,↓reduceIte]<;>rfl)|(simp only [ht22,ht25,ht33,ht41,ht41,ht50,hk3,Kv,Gy,M6,if_true,if_false,B1,↓reduceIte]<;>rfl)|(simp only [ht22,ht25,ht33,ht41,ht41,ht50,if_true,if_false,B1,↓reduceIte]<;>rfl),rfl⟩
 refine Z1 ?_;refine A2 [3,4,58] ?_
 refine A6 (fun ht58=>?_) (fun ht58=>?_)
 ·refine ee ?_;refine ug ?_;exact APt
 refine uh ?_;exact APt

theorem c72 (s:Str) (hs:s.length≤1048576) (Hp:List AObj):AFun Tryz.prog 72 [Ac s] Hp (Bz (Ru s)):=by
 refine B0 [.tmp 2] [0] Tryz.func72 Tryz.ntmps72 (fun d=>?_)
 refine Z59 ?_;refine Z2 ?_;refine Ap Tryz.call67 (c67 s hs _) ?_;exact Z88

theorem c69 (e:Expr) (hok:okE 61 e) (Hp:List AObj):AFun Tryz.prog 69 [Aj e] Hp (Bz (Ox e)):=by
 refine B0 [.tmp 2] [0] Tryz.func69 Tryz.ntmps69 (fun d=>?_)
 refine Z90 ?_;refine Z2 ?_;refine Ap Tryz.call70 (c70 61 e hok (by decide) _) ?_;exact Z88

theorem ASw (l:List Str) (hl:l.length≤1048576) (hn:∀s∈l,s.length≤1048576) (Hp:List AObj):AFun Tryz.prog 108 [Jw l,.fn (.func 72) [] []] Hp (A7 (Vq Ru l)):=by
 refine B0 [.tmp 4] [0,1] Tryz.func108 Tryz.ntmps108 (fun d=>?_)
 refine Z63 ?_;refine Z50 ?_;refine A2 [0,1,7,8] ?_
 refine Bo (α:=Nat) (fun x=>⟨19,A9 0 (Jw l) (A9 1 (.fn (.func 72) [] []) (A9 7 (A7 l.length) (A9 8 (A7 (x:Nat)) (fun _=>.any)))),Hp,[],[],none⟩) (fun x=>x≤l.length∧∀(j:Nat) y,j<x→l[j]? = some y→Ru y=false) (fun x=>l.length-x) (0) ⟨Al _,fun j y h=>by omega⟩ (Ar (by simp)) rfl (fun x hx=>?_)
 refine Z2 ?_;refine A2 [0,1,7,8,9] ?_
 refine Nc (fun ht9=>?_) (fun ht9=>?_)
 ·have hlt:x<l.length:=by simpa using ht9
  refine Z22 ?_;refine Z1 ?_;refine A2 [0,1,5,7,8] ?_;refine Z16 ?_
  refine A3 (h:=B2 (x) (Ac l[x]) (fun _=>Ea hlt)) (hr:=?_)
  refine A3 ?_;refine R.callV Tryz.call72 (c72 l[x] (hn _ (D4 hlt)) _) ?_;refine A2 [0,1,5,7,8,16] ?_
  refine A6 (fun ht16=>?_) (fun ht16=>?_)
  ·refine Z1 ?_;refine Z17 ?_;exact AM3
  refine ui ?_;exact Z83
 have hxe:l.length≤x:=by simpa using ht9
 refine Z26 ?_;exact AM1

theorem c71 (l:List Str) (hl:l.length≤1048576) (hn:∀s∈l,s.length≤1048576) (Hp:List AObj):AFun Tryz.prog 71 [Jw l,.fn (.func 72) [] []] Hp (Bz (l.any Ru)):=by
 refine B0 [.tmp 4] [0,1] Tryz.func71 Tryz.ntmps71 (fun d=>?_)
 refine Z63 ?_;refine Z1 ?_;refine Ap Tryz.call108 (ASw l hl hn _) ?_;refine Z0 ?_;exact AM6

theorem AQr (l:List Expr) (hl:l.length≤1048576) (hn:∀e∈l,okE 61 e) (Hp:List AObj):AFun Tryz.prog 109 [U4 l,.fn (.func 69) [] []] Hp (A7 (Vq Ox l)):=by
 refine B0 [.tmp 4] [0,1] Tryz.func109 Tryz.ntmps109 (fun d=>?_)
 refine Z63 ?_;refine Z50 ?_;refine A2 [0,1,7,8] ?_
 refine Bo (α:=Nat) (fun x=>⟨19,A9 0 (U4 l) (A9 1 (.fn (.func 69) [] []) (A9 7 (A7 l.length) (A9 8 (A7 (x:Nat)) (fun _=>.any)))),Hp,[],[],none⟩) (fun x=>x≤l.length∧∀(j:Nat) y,j<x→l[j]? = some y→Ox y=false) (fun x=>l.length-x) (0) ⟨Al _,fun j y h=>by omega⟩ (Ar (by simp)) rfl (fun x hx=>?_)
 refine Z2 ?_;refine A2 [0,1,7,8,9] ?_
 refine Nc (fun ht9=>?_) (fun ht9=>?_)
 ·have hlt:x<l.length:=by simpa using ht9
  refine Z22 ?_;refine Z1 ?_;refine A2 [0,1,5,7,8] ?_;refine Z16 ?_
  refine A3 (h:=B2 (x) (Aj l[x]) (fun _=>Ea hlt)) (hr:=?_)
  refine A3 ?_;refine R.callV Tryz.call69 (c69 l[x] (hn _ (D4 hlt)) _) ?_;refine A2 [0,1,5,7,8,16] ?_
  refine A6 (fun ht16=>?_) (fun ht16=>?_)
  ·refine Z1 ?_;refine Z17 ?_;exact AM3
  refine ui ?_;exact Z83
 have hxe:l.length≤x:=by simpa using ht9
 refine Z26 ?_;exact AM1

theorem ALp (l:List Expr) (hl:l.length≤1048576) (hn:∀e∈l,okE 61 e) (Hp:List AObj):AFun Tryz.prog 73 [U4 l,.fn (.func 69) [] []] Hp (Bz (l.any Ox)):=by
 refine B0 [.tmp 4] [0,1] Tryz.func73 Tryz.ntmps73 (fun d=>?_)
 refine Z63 ?_;refine Z1 ?_;refine Ap Tryz.call109 (AQr l hl hn _) ?_;refine Z0 ?_;exact AM6

theorem c75 (s:Str) (Hp:List AObj):AFun Tryz.prog 75 [Ac s] Hp (Aj (Bj s)):=by
 refine B0 [.cell 2 69] [0] Tryz.func75 Tryz.ntmps75 (fun d=>?_)
 refine Z43 ?_;refine Z2 ?_;refine Z57 ?_;refine Mg 0 5 6 ?_;refine Z3 ?_;exact Ab (Ao (B5 jA jS)) ⟨by rw [Ad];rfl,rfl⟩

theorem qr {m:Mov} {c:Col}:(((!(Ej c.name)) || (!((Av c.kind==[])==(m.kind==3)))) || ((m.kind==3)&&(c.kind != 0))) = !L5 m c:=by
 unfold L5
 cases Ej c.name<;>cases (Av c.kind==([]:Str))<;>cases (m.kind==3)<;>cases (c.kind != 0)<;>rfl
theorem ANg {m:Mov} (h:(!(Ew m))=true):Ix m=false:=by
 have:Ew m=false:=by simpa using h
 unfold Ix;rw [this];rfl
theorem ANh {m:Mov} {c:Col} (hc:c∈m.give) (h:L5 m c=false):Ix m=false:=by
 have:m.give.all (L5 m)=false:=ju.2 ⟨c,hc,by rw [h];simp⟩
 unfold Ix;rw [this];simp
theorem ANi {m:Mov} (h:((m.take.any Ru || m.ahead.any Ox) || m.back.any Ox)=true):Ix m=false:=by
 unfold Ix
 rw [show Ru=fun s => !(Ej s) from rfl,show Ox=fun e => !(Da e) from rfl,Oe,Oe,Oe] at h
 cases h1:m.take.all Ej<;>cases h2:m.ahead.all Da<;>cases h3:m.back.all Da<;>simp_all
theorem AKb {m:Mov} (h1:Ew m=true) (h2:m.give.all (L5 m)=true) (h:((m.take.any Ru || m.ahead.any Ox) || m.back.any Ox)=false):Ix m=Jp m:=by
 unfold Ix
 rw [show Ru=fun s => !(Ej s) from rfl,show Ox=fun e => !(Da e) from rfl,Oe,Oe,Oe] at h
 rw [h1,h2]
 cases h1:m.take.all Ej<;>cases h2:m.ahead.all Da<;>cases h3:m.back.all Da<;>simp_all
theorem Xy {α β:Type} {f:α→β} {l:List α} {d:α} (h:0<l.length):(l.map f)[0]? = some (f (l.getD 0 d)):=by
 rw [D3,Ak h,F7,Ak h]
 rfl
theorem Vr {α:Type} {l:List α} {d:α} (h:0<l.length):l.getD 0 d∈l:=by
 rw [F7,Ak h]
 exact D4 h
theorem ANj {m:Mov} (h:(m.kind==3)=true):Jp m=(eqE (m.ahead.getD 0 Ax) (Bj (m.take.getD 0 []))&&eqE (m.back.getD 0 Ax) (Bj (m.give.getD 0 ⟨[],0⟩).name)):=if_pos h
theorem ANk {m:Mov} (h:(m.kind==3)=false) (h6:(m.kind==6)=true):Jp m=(m.take.getD 0 []==(m.give.getD 0 ⟨[],0⟩).name):=by unfold Jp;rw [if_neg (by rw [h];simp),if_pos h6]
theorem ANl {m:Mov} (h:(m.kind==3)=false) (h6:(m.kind==6)=false):Jp m=true:=by unfold Jp;rw [if_neg (by rw [h];simp),if_neg (by rw [h6];simp)]
theorem c36 (m:Mov) (h:OkMov m) (Hp:List AObj):AFun Tryz.prog 36 [K5 m] Hp (Bz (Ix m)):=by
 refine B0 [.tmp 2] [0] Tryz.func36 Tryz.ntmps36 (fun d=>?_)
 refine Z90 ?_;refine Z35 ?_;refine Ap Tryz.call66 (c66 m _) ?_;refine A3 ?_;refine A2 [1,8] ?_
 refine A6 (fun ht8=>?_) (fun ht8=>?_)
 ·have hm:=ANg ht8
  refine Z20 ?_;exact Z36
 have hct:Ew m=true:=by simpa using ht8
 refine Z4 ?_;refine Z42 ?_;refine A2 [1,10,11,12] ?_
 refine Bo (α:=Nat) (fun x=>⟨95,A9 1 (.ro (Yb m)) (A9 10 (ALk m.give) (A9 11 (A7 (m.give.length:Nat)) (A9 12 (A7 (x:Nat)) (fun _=>.any)))),Hp,[],[],none⟩) (fun x=>x≤m.give.length∧∀(j:Nat) (y:Col),j<x→m.give[j]? = some y→(!L5 m y)=false) (fun x=>m.give.length-x) (0) ⟨Al _,fun j y h=>by omega⟩ (Ar (by simp)) rfl (fun x hx=>?_)
 refine Z2 ?_;refine A2 [1,10,11,12,13] ?_
 refine Nc (fun ht13=>?_) (fun ht13=>?_)
 ·have hlt:x<m.give.length:=by simpa using ht13
  have hgl:=h.gives2
  refine AEo ?_
  refine A3 (h:=B2 (x) (Hz m.give[x]) (fun _=>Ea hlt)) (hr:=?_)
  refine A3 ?_;refine Z11 ?_;refine A2 [1,4,10,11,12] ?_;refine Gb [0,1,3,7,15,31,63,127,255,31,543,1567,4095,8191,16383,32767,65535,131071,262143,524287,1048575,2097151,4194303,8388607] 12 Af (by kernel_rfl) ?_;refine Z5 ?_;refine Pq Tryz.call67 (c67 m.give[x].name (h.gives.2 _ (D4 hlt)) _) ?_;refine Z5 ?_;refine Z58 ?_;refine H.call Tryz.call68 (fun hB=>c68 m.give[x].kind _) ?_;refine Z58 ?_;refine Z58 ?_;refine Er ?_;refine We ?_;refine Z6 ?_;refine Z77 ?_;refine A2 [1,10,11,12,39] ?_
  refine A6 (fun ht39=>?_) (fun ht39=>?_)
  ·rw [qr] at ht39
   have hm:=ANh (D4 hlt) (by simpa using ht39)
   refine Z20 ?_;exact AEi
  rw [qr] at ht39
  refine ui ?_;refine A2 [1,10,11,12] ?_;refine Be (x+1) ⟨hlt,Jx hlt hx.2 ht39⟩ (by omega) ?_
  exact Oo (own:=[]) (fun _=>.refl _) (by repeat (first|exact H3|refine H1 (by first|(simp [or_imp,forall_and];done)|exact ACe|exact low_ro.2 mc) ?_)) (by simp) (by simp)
 have hxe:m.give.length≤x:=by simpa using ht13
 have hga:m.give.all (L5 m)=true:=by have:=qq hxe hx.2;rw [Oe] at this;simpa using this
 refine Z26 ?_;refine Z2 ?_;refine A2 [1,5] ?_;refine Z9 ?_;refine Ap Tryz.call71 (c71 m.take h.takes h.names _) ?_;refine A3 ?_;refine Z6 ?_;refine Bk ?_;refine D9 Tryz.call73 (fun hB=>ALp m.ahead h.ahead.len h.ahead.ok _) ?_;refine uj ?_;refine D9 Tryz.call73 (fun hB=>ALp m.back h.back.len h.back.ok _) ?_;refine A3 ?_;refine A2 [1,55] ?_
 refine A6 (fun ht55=>?_) (fun ht55=>?_)
 ·have hm:=ANi ht55
  refine Z20 ?_;exact Z36
 have hm0:=AKb hct hga ht55
 refine Z4 ?_;refine Z9 ?_;refine A2 [1,57] ?_;refine Z84 ?_;refine A2 [1,57,58] ?_
 refine A6 (fun ht58=>?_) (fun ht58=>?_)
 ·obtain ⟨hl1,hl2⟩:=Vh hct (by rw [ht58];simp)
  obtain ⟨hl3,hl4⟩:=L6 hct
  have g1:=Xy (f:=Aj) (l:=m.ahead) (d:=Ax) (by omega)
  have g2:=Xy (f:=Aj) (l:=m.back) (d:=Ax) (by omega)
  have g3:=Xy (f:=Ac) (l:=m.take) (d:=[]) (by omega)
  have g4:=Xy (f:=Hz) (l:=m.give) (d:=⟨[],0⟩) (by omega)
  have ok1:=h.ahead.ok _ (Vr (l:=m.ahead) (d:=Ax) (by omega))
  have ok2:=h.back.ok _ (Vr (l:=m.back) (d:=Ax) (by omega))
  have hm:=hm0.trans (ANj ht58)
  refine Gb [0,1,3,7,0,16,48,112,240,511,1023,2047,4095,8191,16383,2047,34815,100351,231423,493567,1017855,2097151,4194303,8388607] 21 Af (by kernel_rfl) ?_;refine Z5 ?_
  refine Am (h:=B2 (0) (Aj (m.ahead.getD 0 Ax)) (fun _=>g1)) (hr:=?_)
  refine Z19 ?_
  refine Am (h:=B2 (0) (Ac (m.take.getD 0 [])) (fun _=>g3)) (hr:=?_)
  refine Am ?_;refine Pq Tryz.call75 (c75 (m.take.getD 0 []) _) ?_;refine Pq Tryz.call74 (c74 61 (m.ahead.getD 0 Ax) ok1 (Bj (m.take.getD 0 [])) _) ?_;refine Am ?_;refine Z58 ?_
  refine H0 (h:=B2 (0) (Aj (m.back.getD 0 Ax)) (fun _=>g2)) (hr:=?_)
  refine Z86 ?_
  refine H0 (h:=B2 (0) (Hz (m.give.getD 0 ⟨[],0⟩)) (fun _=>g4)) (hr:=?_)
  refine Z58 ?_;refine H.call Tryz.call75 (fun hB=>c75 (m.give.getD 0 ⟨[],0⟩).name _) ?_;refine Er ?_;refine D9 Tryz.call74 (fun hB=>c74 61 (m.back.getD 0 Ax) ok2 (Bj (m.give.getD 0 ⟨[],0⟩).name) _) ?_;exact AOz
 refine Z1 ?_;refine A2 [1,83] ?_
 refine A6 (fun ht83=>?_) (fun ht83=>?_)
 ·obtain ⟨hl1,hl2⟩:=Vh hct (by rw [ht83];simp)
  obtain ⟨hl3,hl4⟩:=L6 hct
  have g1:=Xy (f:=Aj) (l:=m.ahead) (d:=Ax) (by omega)
  have g2:=Xy (f:=Aj) (l:=m.back) (d:=Ax) (by omega)
  have g3:=Xy (f:=Ac) (l:=m.take) (d:=[]) (by omega)
  have g4:=Xy (f:=Hz) (l:=m.give) (d:=⟨[],0⟩) (by omega)
  have ok1:=h.ahead.ok _ (Vr (l:=m.ahead) (d:=Ax) (by omega))
  have ok2:=h.back.ok _ (Vr (l:=m.back) (d:=Ax) (by omega))
  have hm:=hm0.trans (ANk ht58 ht83)
  refine Gb [0,1,3,7,0,16,48,112,240,511,1023] 9 Af (by kernel_rfl) ?_;refine Z5 ?_
  refine Am (h:=B2 (0) (Ac (m.take.getD 0 [])) (fun _=>g3)) (hr:=?_)
  refine Z19 ?_
  refine Am (h:=B2 (0) (Hz (m.give.getD 0 ⟨[],0⟩)) (fun _=>g4)) (hr:=?_)
  refine Z5 ?_;refine Er ?_;exact AOz
 have hm:=hm0.trans (ANl ht58 ht83)
 refine uh ?_;exact AEr

def ACg (m:Mov):Bool := !(Ix m)
theorem AKc (l:List Mov):(decide ((l.length:Int)≤8) && !(l.any ACg))=ck l:=by
 unfold ck
 rw [show ACg=fun m => !(Ix m) from rfl,Oe]
 simp
theorem c35 (m:Mov) (h:OkMov m) (Hp:List AObj):AFun Tryz.prog 35 [K5 m] Hp (Bz (ACg m)):=by
 refine B0 [.tmp 2] [0] Tryz.func35 Tryz.ntmps35 (fun d=>?_)
 refine Z90 ?_;refine Z2 ?_;refine Ap Tryz.call36 (c36 m h _) ?_;exact Z88

theorem c65 (l:List Mov) (h:OkMovs l) (Hp:List AObj):AFun Tryz.prog 65 [Io l,.fn (.func 35) [] []] Hp (A7 (Vq ACg l)):=by
 refine B0 [.tmp 4] [0,1] Tryz.func65 Tryz.ntmps65 (fun d=>?_)
 refine Z63 ?_;refine Z50 ?_;refine A2 [0,1,7,8] ?_
 refine Bo (α:=Nat) (fun x=>⟨19,A9 0 (Io l) (A9 1 (.fn (.func 35) [] []) (A9 7 (A7 l.length) (A9 8 (A7 (x:Nat)) (fun _=>.any)))),Hp,[],[],none⟩) (fun x=>x≤l.length∧∀(j:Nat) (y:Mov),j<x→l[j]? = some y→ACg y=false) (fun x=>l.length-x) (0) ⟨Al _,fun j y h=>by omega⟩ (Ar (by simp)) rfl (fun x hx=>?_)
 refine Z2 ?_;refine A2 [0,1,7,8,9] ?_
 refine Nc (fun ht9=>?_) (fun ht9=>?_)
 ·have hlt:x<l.length:=by simpa using ht9
  have hlen:=h.len
  refine Z22 ?_;refine Z1 ?_;refine A2 [0,1,5,7,8] ?_;refine Z16 ?_
  refine A3 (h:=B2 (x) (K5 l[x]) (fun _=>Ea hlt)) (hr:=?_)
  refine A3 ?_;refine R.callV Tryz.call35 (c35 l[x] (h.each _ (D4 hlt)) _) ?_;refine A2 [0,1,5,7,8,16] ?_
  refine A6 (fun ht16=>?_) (fun ht16=>?_)
  ·refine Z1 ?_;refine Z17 ?_;exact AM3
  refine ui ?_;exact Z83
 have hxe:l.length≤x:=by simpa using ht9
 refine Z26 ?_;exact AM1

theorem c34 (l:List Mov) (h:OkMovs l) (Hp:List AObj):AFun Tryz.prog 34 [Io l,.fn (.func 35) [] []] Hp (Bz (l.any ACg)):=by
 refine B0 [.tmp 4] [0,1] Tryz.func34 Tryz.ntmps34 (fun d=>?_)
 refine Z63 ?_;refine Z1 ?_;refine Ap Tryz.call65 (c65 l h _) ?_;refine Z0 ?_;exact AM6

theorem c14 (l:List Mov) (h:OkMovs l) (Hp:List AObj):AFun Tryz.prog 14 [Io l] Hp (Bz (ck l)):=by
 refine B0 [.tmp 2] [0] Tryz.func14 Tryz.ntmps14 (fun d=>?_)
 refine Z59 ?_;refine Z33 ?_;refine Bk ?_;refine D9 Tryz.call34 (fun hB=>c34 l h _) ?_;refine Bk ?_;refine Z54 ?_;exact Ab (Ao Ag) ⟨by rw [←AKc,Bh],rfl⟩

/-! The columns on the way through moves. -/
theorem io {n k:Nat} {o:Bool} {l:List Str}:Low n (.slice o k (l.map Ac)):=by simp [or_imp,forall_and]
theorem wn {n k:Nat} {o:Bool} {a:List Expr} {e:Expr}:Low n (.slice o k (a.map Aj++[Aj e])):=low_slice.2 fun y hy=>by
 rcases Di.1 hy with h|h
 ·obtain ⟨m,_,rfl⟩:=F4.1 h
  exact At _ _
 rw [C1.1 h]
 exact At _ _
theorem d7 {n k:Nat} {o:Bool} {a:List Expr}:Low n (.slice o k (a.map Aj)):=low_slice.2 fun y hy=>by
 obtain ⟨m,_,rfl⟩:=F4.1 hy
 exact At _ _
/-! fuse: trees in columns' places. -/
mutual
def putF (c:List Col) (l:List Expr):Expr→Option Expr
 | .mk o t v k=>if o==2 then (if yf t c<0 then none else some (l.getD (yf t c).toNat Ax)) else (ALq c l k).map fun k'=>.mk o t v k'
def ALq (c:List Col) (l:List Expr):List Expr→Option (List Expr)
  | []=>some []
  | e::r=>match putF c l e with
    | none=>none
    | some y=>(ALq c l r).map fun s=>y::s
 end
theorem Qn {k:List Expr} {i:Nat} (h:i<k.length):(k.map Aj)[i]? = some (Aj (k.getD i Ax))∧k.getD i Ax∈k∧∀(f:Expr→Rs) (d:Rs),(k.map f).getD i d=f (k.getD i Ax):=by
 have e:k.getD i Ax=k[i]:=by rw [F7,Ak h];rfl
 rw [e]
 refine ⟨by simp [h],D4 h,fun f d=>?_⟩
 rw [F7,D3,Ak h]
 rfl
theorem AGl {e:Expr} (h:Cl e=true):(e.op=5→e.kids.length=2)∧(e.op=3∨e.op=4→e.kids.length=1)∧(e.op=6→Ce e.text=(e.kids.length:Int))∧(e.op=1∨e.op=2∨e.op=3∨e.op=4∨e.op=5∨e.op=6):=by
 cases L4 h with
 | val v hp h0=>simp [G6,Expr.op]
 | name t ht=>simp [Bj,Expr.op]
 | neg a=>simp [Cy,Expr.op,Expr.kids]
 | no a=>simp [Cy,Expr.op,Expr.kids]
 | bin t a b ht=>simp [Dn,Expr.op,Expr.kids]
 | call t k ht=>simpa [Expr.op,Expr.kids,Expr.text] using ht
def U7 (s:Str):Int:=if s==[111,114] then 0 else if s==[97,110,100] then 1 else if (((((s==[61]) || (s==[33,61])) || (s==[60])) || (s==[60,61])) || (s==[62])) || (s==[62,61]) then 3 else if ((s==[43]) || (s==[45])) || (s==[38]) then 4 else if ((s==[42]) || (s==[47])) || (s==[37]) then 5 else 7
theorem ACh (s:Str):U7 s=if 0≤B8 s then B8 s else 7:=by
 by_cases hf:s∈levels.flatten
 ·have h3:(levels.flatten.all fun s=>decide (U7 s=if 0≤B8 s then B8 s else 7))=true:=by kernel_rfl
  exact of_decide_eq_true (Ay.1 h3 s hf)
 have hn:=hf
 have h:B8 s = -1:=by
  rcases Ly s with h|⟨h,_⟩
  ·exact absurd h hf
  exact h
 rw [h]
 simp only [levels,List.flatten_cons,List.flatten_nil,Ep,Ey,Fi,C9,Hc,or_false,not_or] at hn
 obtain ⟨a1,a2,a3,a4,a5,a6,a7,a8,a9,b1,b2,b3,b4,b5⟩:=hn
 simp [U7, *]
/-- The level of a node. -/
def wo (e:Expr):Int:=if e.op==4 then 2 else if e.op==3 then 6 else if e.op==5 then U7 e.text else 7
theorem zj {e:Expr} (h:Cl e=true):wo e=(levE e:Int):=by
 unfold wo levE
 split
 ·rfl
 split
 ·rfl
 split
 ·rename_i h5
  have hb:0≤B8 e.text:=by
   have h5':e.op=5:=by simpa using h5
   rw [Lw] at h
   unfold V6 at h
   simp [h5'] at h
   exact h.2.1
  rw [ACh,if_pos hb]
  omega
 rfl
theorem ASx (s:Str) (Hp:List AObj):AFun Tryz.prog 199 [Ac s] Hp (A7 (U7 s)):=by
 refine B0 [.tmp 2] [0] Tryz.func199 Tryz.ntmps199 (fun d=>?_)
 refine Z59 ?_;refine Z35 ?_;refine A2 [3] ?_;refine Z84 ?_;refine A2 [3,4] ?_
 refine A6 (fun ht4=>?_) (fun ht4=>?_)
 ·exact AEj
 refine Z1 ?_;refine A2 [3,6] ?_
 refine A6 (fun ht6=>?_) (fun ht6=>?_)
 ·exact AEj
 refine Ih ⟨23,A9 3 (Ac s) (A9 8 (Bz ((((((s==[61]) || (s==[33,61])) || (s==[60])) || (s==[60,61])) || (s==[62])) || (s==[62,61]))) (fun _=>.any)),Hp,[],[],none⟩ ?_ ?_
 ·refine AEl ?_
  refine A6 (fun ht8=>?_) (fun ht8=>?_)
  ·exact AEg
  refine AEl ?_
  refine A6 (fun ht8=>?_) (fun ht8=>?_)
  ·exact AEg
  refine AEl ?_
  refine A6 (fun ht8=>?_) (fun ht8=>?_)
  ·exact AEg
  refine AEl ?_
  refine A6 (fun ht8=>?_) (fun ht8=>?_)
  ·exact AEg
  refine AEl ?_
  refine A6 (fun ht8=>?_) (fun ht8=>?_)
  ·exact AEg
  refine Z21 ?_;refine A2 [3,8] ?_;exact Z47
 refine A6 (fun ht8=>?_) (fun ht8=>?_)
 ·exact AEj
 refine Ih ⟨23,A9 3 (Ac s) (A9 15 (Bz (((s==[43]) || (s==[45])) || (s==[38]))) (fun _=>.any)),Hp,[],[],none⟩ ?_ ?_
 ·refine Z1 ?_;refine A2 [3,15] ?_
  refine A6 (fun ht15=>?_) (fun ht15=>?_)
  ·refine Eh [3,15] ?_;exact Z99
  refine Z1 ?_;refine A2 [3,15] ?_
  refine A6 (fun ht15=>?_) (fun ht15=>?_)
  ·refine Eh [3,15] ?_;exact Z99
  refine Z21 ?_;refine A2 [3,15] ?_;exact Z47
 refine A6 (fun ht15=>?_) (fun ht15=>?_)
 ·exact AEj
 refine Ih ⟨23,A9 19 (Bz (((s==[42]) || (s==[47])) || (s==[37]))) (fun _=>.any),Hp,[],[],none⟩ ?_ ?_
 ·refine Z1 ?_;refine A2 [3,19] ?_
  refine A6 (fun ht19=>?_) (fun ht19=>?_)
  ·refine Eh [19] ?_;exact Z99
  refine Z1 ?_;refine A2 [3,19] ?_
  refine A6 (fun ht19=>?_) (fun ht19=>?_)
  ·refine Eh [19] ?_;exact Z99
  refine Z21 ?_;refine A2 [19] ?_;exact Z47
 refine A6 (fun ht19=>?_) (fun ht19=>?_)
 ·exact AEj
 refine uh ?_;exact Ab (Ao Ag) ⟨by simp_all [U7],rfl⟩

theorem AQs (e:Expr) (Hp:List AObj):AFun Tryz.prog 169 [Aj e] Hp (A7 (wo e)):=by
 refine B0 [.tmp 2] [0] Tryz.func169 Tryz.ntmps169 (fun d=>?_)
 refine Z90 ?_;refine Z9 ?_;refine A2 [1,4] ?_;refine Z84 ?_;refine A2 [1,4,5] ?_
 refine A6 (fun ht5=>?_) (fun ht5=>?_)
 ·refine Z20 ?_;exact AM7
 refine Z1 ?_;refine A2 [1,4,7] ?_
 refine A6 (fun ht7=>?_) (fun ht7=>?_)
 ·refine Z20 ?_;exact AM7
 refine Z1 ?_;refine A2 [1,9] ?_
 refine A6 (fun ht9=>?_) (fun ht9=>?_)
 ·refine Z1 ?_;refine Ap Tryz.call199 (ASx e.text _) ?_;refine A3 ?_;refine Z3 ?_;exact AM7
 refine uh ?_;exact Ab (Ao Ag) ⟨by simp_all [wo],rfl⟩

end Go.SX.Nb
namespace Go.Proofs
open Go.Shelf Go.RowKit

section
variable {P:Program} (w:World)

/-- Bytes behind a builder's bytes: what is handed back lies where it lay, or in the next block, or nowhere still. -/
theorem ACi {t u ty e:TypeId} {i:TypeInfo} (ht:P.underlying t=some (.slice e)) (hu:P.underlying u=some .string) (hi:P.info? e=some i) (hz:i.zero=some (.int .u8 0)) (hsize:i.size=1) (hby:i.bytes=1)
  (v:Value) (n:Nat) (xs:List Value) (hown:w.ownsRow 0 e 1 v n xs) (s:ByteArray) (hb:n+s.size≤140737488355328):
  ∃v' w',(Builtin.append_ #[t,u] ty #[v,.string s]).run P w=.ok v' w'∧w'.ownsRow 0 e 1 v' (n+s.size) (xs++Lib.strCells s)∧w.grownBy w' v'.ownBlock ∧
   ((v=.slice none 0 0∧v'=v∧s.size=0)∨(∃g cap,v=.slice (some ⟨g,0,none⟩) n cap∧v'=.slice (some ⟨g,0,none⟩) (n+s.size) cap)∨∃cap,v'=.slice (some ⟨w.heap.size,0,none⟩) (n+s.size) cap∧0<n+s.size):=by
 have h63:n+s.size≤maxLen:=by unfold maxLen;omega
 obtain ⟨v',w',hr,h1,h2,h3⟩:=Lib.run_append_own_string (P:=P) w 0 t u ty e i ht hu hi hz hsize hby v n xs hown s h63 hb (Nat.zero_le _)
 have hxl:xs.length=n:=by simpa using hown.1
 refine ⟨v',w',hr,h1,?_⟩
 rcases hown.2 with ⟨rfl,rfl⟩|⟨g,cap,cur,rfl,hbg,hg,hnc,hcm,hcs,htake⟩
 ·by_cases hm:s.size=0
  ·have e1:=h3.2 ⟨rfl,hm⟩
   exact ⟨by rw [e1];exact h2,.inl ⟨rfl,e1,hm⟩⟩
  have hr2:=run_append_nil_string (P:=P) w t u ty e i (.int .u8 0) ht hu hi hz s (by omega) (by omega) (by rw [hby];omega)
  rw [hr] at hr2
  injection hr2 with e1 e2
  refine ⟨?_,.inr (.inr ⟨_,by rw [e1,Nat.zero_add],by omega⟩)⟩
  rw [e2]
  exact ⟨rfl,rfl,rfl,by simp,fun k hk _=>Lib.alloc_old w.drew _ k hk⟩
 by_cases hroom:n+s.size≤cap
 ·have hcs':cur.size=cap:=by simpa using hcs
  have hr2:=Lib.run_append_room_string (P:=P) w t u ty e i ht hu hi hsize g n cap cur hg s hroom (by omega)
  rw [hr] at hr2
  injection hr2 with e1 e2
  exact ⟨by rw [e1];exact h2,.inr (.inl ⟨g,cap,rfl,e1⟩)⟩
 have holds:∀j u,xs[j]? = some u→w.cell? ((⟨g,0,none⟩:Addr).add j)=some u:=hown.cells (g:=g) rfl
 have hr2:=Lib.run_append_grow_string (P:=P) w t u ty e i (.int .u8 0) ht hu hi hz ⟨g,0,none⟩ n cap xs (by rw [hsize];simpa using hxl) holds s (by omega) (by omega) (by rw [hby];exact growslice_fits (by omega) (by omega))
 rw [hr] at hr2
 injection hr2 with e1 e2
 refine ⟨?_,.inr (.inr ⟨_,e1,by omega⟩)⟩
 rw [e2]
 exact ⟨rfl,rfl,rfl,by simp,fun k hk _=>Lib.alloc_old w.drew _ k hk⟩
end

theorem X1 {P:Program} {w w':World} {ops:Array Oper} {rest:List Oper} {o:Oper} {a:Act} {Q:Exit→Act→World→Prop} {v v':Value} {s:ByteArray} (hgd:o.guard=none) (sl x:Operand) (t u ty:TypeId)
  (ho:o.op=.call { callee:=.builtin .append,args:=#[sl,x],argTypes:=#[t,u] }) (hty:o.type=ty) (hs:a.eval sl=v) (hx:a.eval x=.string s) (hrun:(Builtin.append_ #[t,u] ty #[v,.string s]).run P w=.ok v' w')
  (h:wpList P ops Q rest (a.put o.dst v') w'):wpList P ops Q (o::rest) a w:=by
 refine wpList_plain hgd fun K hK=>?_
 subst hty
 unfold Oper.wp execOp
 simp only [ho,resolve,invoke,builtin,Sem.run_bind,Sem.run_pure,Result.andThen_ok,List.map_toArray,List.map_cons,List.map_nil,hs,hx,hrun]
 exact hK _ _ h

section
variable {P:Program} {ρ:Ren}

set_option maxHeartbeats 1000000 in
set_option maxRecDepth 100000 in
/-- The check of an unused builder within a block of type T. -/
theorem ACj (L:Lays.n240 P ρ) (X:Builder.X72 P ρ) {T:TypeId} (hl:liesAt P P.depth T (2 / P.cellsOf T) 0 (ρ.t 72) 1=true) (b:Nat) (w:World) (h0:w.cell? ⟨b,0,none⟩=some (.pointer none)) (hsh:w.shape? b=some (T,2)) (hfz:w.frozen? ⟨b,0,none⟩=false):
  Calls P (ρ.f 240) #[.pointer (some ⟨b,0,none⟩)] w fun e w'=>e=.returned (.tuple #[])∧w'=w.setCell ⟨b,0,none⟩ (.pointer (some ⟨b,0,none⟩)):=by
 obtain ⟨j,hj,hjs⟩:=Option.map_eq_some_iff.1 X.sizeBuilder
 have mixed:=L.mixed
 have t72:=L.t72;have a72:=L.a72;have z72:=L.z72;have v72:=L.v72;have u72:=run_underlying L.t72
 have t70:=L.t70;have a70:=L.a70;have z70:=L.z70;have v70:=L.v70;have u70:=run_underlying L.t70
 have t9:=L.t9;have a9:=L.a9;have z9:=L.z9;have v9:=L.v9;have u9:=run_underlying L.t9
 have t4:=L.t4;have a4:=L.a4;have z4:=L.z4;have v4:=L.v4;have u4:=run_underlying L.t4
 have t164:=L.t164;have a164:=L.a164;have z164:=L.z164;have v164:=L.v164;have u164:=run_underlying L.t164
 go_enter L.f240,Body.n240_ntmps ρ
 go_wp2
 rw [Lib.run_to_unsafe w ⟨b,0,none⟩ L.t70 L.t164 hj (by rw [hjs];decide) hsh (Nat.zero_lt_succ 1)]
 simp only [Result.andThen]
 rw [Oper.upon_value]
 go_wp2
 rw [run_callFunc_extern L.f276 (by kernel_rfl) (by kernel_rfl) (by kernel_rfl) (e:=Extern.AbiNoEscape.same) (by kernel_rfl)]
 rw [Lib.run_noEscape]
 simp only [Result.andThen]
 rw [Oper.upon_value]
 go_wp2
 rw [Lib.run_from_unsafe w ⟨b,0,none⟩ L.t164 L.t70 hj hsh hl]
 simp only [Result.andThen]
 rw [Oper.upon_value]
 go_wp2
 go_end0
 exact ⟨rfl,rfl⟩

/-- The check: behind it the first cell holds the builder's own address; nothing else turns. -/
theorem AGm (L:Lays.n240 P ρ) (X:Builder.X72 P ρ) {T e:TypeId} (hl:liesAt P P.depth T (2 / P.cellsOf T) 0 (ρ.t 72) 1=true) (b:Nat) (p v:Value) (n:Nat) (bs:List Value) (w:World) (h:Re T e b p v n bs w):
  Calls P (ρ.f 240) #[.pointer (some ⟨b,0,none⟩)] w fun e' w'=>e'=.returned (.tuple #[])∧Re T e b (.pointer (some ⟨b,0,none⟩)) v n bs w'∧w.grownBy w' (some b)∧w'.heap.size=w.heap.size:=by
 obtain ⟨h1,hp,h3,h4⟩:=h
 rcases hp with rfl|rfl
 ·refine (ACj L X hl b w (by rw [Lib.cell_of_heap h1];rfl) (by simp [World.shape?,h1]) (Lib.frozen_of_heap h1 0)).mono ?_
  rintro e' w' ⟨rfl,rfl⟩
  have hgr:w.grownBy (w.setCell ⟨b,0,none⟩ (.pointer (some ⟨b,0,none⟩))) (some b):=⟨rfl,rfl,rfl,by simp [World.setCell],fun k _ hk=>Below.heap_setCell _ _ _ _ (fun e=>hk (by simp [e]))⟩
  exact ⟨rfl,⟨by simp [World.setCell,Array.getElem?_modify,h1],.inr rfl,h3.kept hgr (.inr h4),h4⟩,hgr,by simp [World.setCell]⟩
 refine (Any.Builder_copyCheck_used L X b w (by rw [Lib.cell_of_heap h1];rfl)).mono ?_
 rintro e' w' ⟨rfl,rfl⟩
 exact ⟨rfl,⟨h1,.inr rfl,h3,h4⟩,⟨rfl,rfl,rfl,Nat.le_refl _,fun _ _ _=>rfl⟩,rfl⟩

set_option maxHeartbeats 1000000 in
set_option maxRecDepth 100000 in
/-- How many bytes there are. -/
theorem bldLen (L:Lays.n170 P ρ) {T e:TypeId} (b:Nat) (p v:Value) (n:Nat) (bs:List Value) (w:World) (h:Re T e b p v n bs w):
  Calls P (ρ.f 170) #[.pointer (some ⟨b,0,none⟩)] w fun e' w'=>e'=.returned (.int .i64 n)∧w'=w:=by
 obtain ⟨h1,_,h3,_⟩:=h
 obtain ⟨ao,cap,rfl⟩:∃ao cap,v=.slice ao n cap:=by
  rcases h3.2 with ⟨hv,h0⟩|⟨g,cap,cur,hv,_⟩
  ·exact ⟨none,0,by rw [hv,h0]⟩
  exact ⟨_,_,hv⟩
 have c1:w.cell? ⟨b,1,none⟩=some (.slice ao n cap):=by rw [Lib.cell_of_heap h1];rfl
 have mixed:=L.mixed
 have t72:=L.t72;have a72:=L.a72;have z72:=L.z72;have v72:=L.v72;have u72:=run_underlying L.t72
 have t70:=L.t70;have a70:=L.a70;have z70:=L.z70;have v70:=L.v70;have u70:=run_underlying L.t70
 have t37:=L.t37;have a37:=L.a37;have z37:=L.z37;have v37:=L.v37;have u37:=run_underlying L.t37
 have t3:=L.t3;have a3:=L.a3;have z3:=L.z3;have v3:=L.v3;have u3:=run_underlying L.t3
 go_enter L.f170,Body.n170_ntmps ρ
 go_wp2
 go_ret
 exact ⟨rfl,rfl⟩

set_option maxHeartbeats 2000000 in
set_option maxRecDepth 100000 in
/-- A text is written behind it. -/
theorem bldWrite (L:Lays.n166 P ρ) (X:Builder.Extra P ρ) {T:TypeId} (hl:liesAt P P.depth T (2 / P.cellsOf T) 0 (ρ.t 72) 1=true) (hTe:T≠ρ.t 5) (b:Nat) (p v:Value) (n:Nat) (bs:List Value) (s:ByteArray) (w:World) (h:Re T (ρ.t 5) b p v n bs w)
  (hlen:n+s.size≤140737488355328):
  Calls P (ρ.f 166) #[.pointer (some ⟨b,0,none⟩),.string s] w fun e w'=>e=.returned (.tuple #[.int .i64 s.size,.nilIface])∧∃v',Re T (ρ.t 5) b (.pointer (some ⟨b,0,none⟩)) v' (n+s.size) (bs++Lib.strCells s) w' ∧
   (w'.os=w.os∧w'.tape=w.tape∧w'.output=w.output∧w.heap.size≤w'.heap.size)∧(∀k,k<w.heap.size→k≠b→v'.ownBlock≠some k→w'.heap[k]? = w.heap[k]?) ∧
   ((v=.slice none 0 0∧v'=v∧s.size=0)∨(∃g cap,v=.slice (some ⟨g,0,none⟩) n cap∧v'=.slice (some ⟨g,0,none⟩) (n+s.size) cap)∨∃cap,v'=.slice (some ⟨w.heap.size,0,none⟩) (n+s.size) cap∧0<n+s.size):=by
 obtain ⟨i0,hi,hz0,hz1,hz2⟩:=info_parts X.infoByte
 have mixed:=L.mixed
 have t72:=L.t72;have a72:=L.a72;have z72:=L.z72;have v72:=L.v72;have u72:=run_underlying L.t72
 have t70:=L.t70;have a70:=L.a70;have z70:=L.z70;have v70:=L.v70;have u70:=run_underlying L.t70
 have t37:=L.t37;have a37:=L.a37;have z37:=L.z37;have v37:=L.v37;have u37:=run_underlying L.t37
 have t3:=L.t3;have a3:=L.a3;have z3:=L.z3;have v3:=L.v3;have u3:=run_underlying L.t3
 have t9:=L.t9;have a9:=L.a9;have z9:=L.z9;have v9:=L.v9;have u9:=run_underlying L.t9
 have t4:=L.t4;have a4:=L.a4;have z4:=L.z4;have v4:=L.v4;have u4:=run_underlying L.t4
 have t164:=L.t164;have a164:=L.a164;have z164:=L.z164;have v164:=L.v164;have u164:=run_underlying L.t164
 have t5:=X.t5;have a5:=X.a5;have z5:=X.z5;have v5:=X.v5;have u5:=run_underlying X.t5
 have e240:∀args w,(callFunc (ρ.f 240) args).run P w=.ok (.enter (ρ.f 240) args) w:=enters_of L.f240 (by kernel_rfl) rfl
 go_enter L.f166,Body.n166_ntmps ρ
 go_wp2_with (go_at_fn (ρ.f 240);refine (AGm { L with } X.toX72 hl b p v n bs _ h).mono ?_)
 rintro e w1 ⟨rfl,⟨hbk,_,hown,hne⟩,hg1,hs1⟩
 have c0:w1.cell? ⟨b,0,none⟩=some (.pointer (some ⟨b,0,none⟩)):=by rw [Lib.cell_of_heap hbk];rfl
 have c1:w1.cell? ⟨b,1,none⟩=some v:=by rw [Lib.cell_of_heap hbk];rfl
 obtain ⟨v',w2,hrun,hown',hgrow,hcase⟩:=ACi (P:=P) w1 (ty:=ρ.t 37) L.t37 L.t9 hi hz0 hz1 hz2 v n bs hown s hlen
 have hlt:b<w1.heap.size:=(Array.getElem?_eq_some_iff.1 hbk).1
 have hne':v'.ownBlock≠some b:=by
  rcases hcase with ⟨_,e1,_⟩|⟨g,cap,e1,e2⟩|⟨cap,e1,_⟩
  ·rw [e1];exact hne
  ·rw [e2];rw [e1] at hne;exact hne
  rw [e1];simp [Value.ownBlock];omega
 have hb2:w2.heap[b]? = some (.cells #[.pointer (some ⟨b,0,none⟩),v] T (0,0)):=by
  rw [hgrow.block b hlt (fun e=>hne' e.symm)]
  exact hbk
 have d0:w2.cell? ⟨b,0,none⟩=some (.pointer (some ⟨b,0,none⟩)):=by rw [Lib.cell_of_heap hb2];rfl
 have d1:w2.cell? ⟨b,1,none⟩=some v:=by rw [Lib.cell_of_heap hb2];rfl
 have f1:w2.frozen? ⟨b,1,none⟩=false:=Lib.frozen_of_heap hb2 1
 obtain ⟨ao,n',cap,rfl⟩:∃ao n' cap,v'=.slice ao n' cap:=by
  rcases hown'.2 with ⟨hv,_⟩|⟨g,cap,cur,hv,_⟩
  ·exact ⟨_,_,_,hv⟩
  exact ⟨_,_,_,hv⟩
 go_wp2_with (at_builtin;refine X1 rfl _ _ (ρ.t 37) (ρ.t 9) (ρ.t 37) rfl rfl rfl rfl hrun ?_)
 go_ret2
 refine ⟨rfl,_,⟨by simp [World.setCell,Array.getElem?_modify,hb2],.inr rfl,hown'.kept (row:=some b) ⟨rfl,rfl,rfl,by simp [World.setCell],fun k _ hk=>Below.heap_setCell _ _ _ _ (fun e=>hk (by simp [e]))⟩ (.inr hne'),hne'⟩,⟨?_,?_,?_,?_⟩,fun k hk hkb hkr=>?_,?_⟩
 ·exact hgrow.os.trans hg1.os
 ·exact hgrow.tape.trans hg1.tape
 ·exact hgrow.output.trans hg1.output
 ·have:=hgrow.size
  simp [World.setCell];omega
 ·rw [Below.heap_setCell _ _ _ _ hkb,hgrow.block k (by omega) (fun e=>hkr e.symm),hg1.block k hk (by simpa using hkb)]
 rw [hs1] at hcase;exact hcase

set_option maxHeartbeats 2000000 in
set_option maxRecDepth 100000 in
/-- Its text: some of its row is frozen; nothing else turns. -/
theorem bldString (L:Lays.n169 P ρ) (X:Builder.Extra P ρ) {T:TypeId} (b:Nat) (p v:Value) (l:List UInt8) (w:World) (h:Re T (ρ.t 5) b p v l.length (Lib.byteCells l) w) (hcap:∀g,v≠.slice (some ⟨g,0,none⟩) 0 0):
  Calls P (ρ.f 169) #[.pointer (some ⟨b,0,none⟩)] w fun e w'=>e=.returned (.string ⟨l.toArray⟩)∧(w'.os=w.os∧w'.tape=w.tape∧w'.output=w.output∧w.heap.size≤w'.heap.size)∧∀k,v.ownBlock≠some k→w'.heap[k]? = w.heap[k]? := by
 obtain ⟨hbk,_,hown,hne⟩:=h
 have mixed:=L.mixed
 have t72:=L.t72;have a72:=L.a72;have z72:=L.z72;have v72:=L.v72;have u72:=run_underlying L.t72
 have t70:=L.t70;have a70:=L.a70;have z70:=L.z70;have v70:=L.v70;have u70:=run_underlying L.t70
 have t37:=L.t37;have a37:=L.a37;have z37:=L.z37;have v37:=L.v37;have u37:=run_underlying L.t37
 have t127:=L.t127;have a127:=L.a127;have z127:=L.z127;have v127:=L.v127;have u127:=run_underlying L.t127
 have t3:=L.t3;have a3:=L.a3;have z3:=L.z3;have v3:=L.v3;have u3:=run_underlying L.t3
 have t9:=L.t9;have a9:=L.a9;have z9:=L.z9;have v9:=L.v9;have u9:=run_underlying L.t9
 have t5:=X.t5;have a5:=X.a5;have z5:=X.z5;have v5:=X.v5;have u5:=run_underlying X.t5
 rcases hown.2 with ⟨rfl,h0⟩|⟨g,cap,cur,rfl,hbg,hg,hnc,hcm,hcs,htake⟩
 ·have hl:l=[]:=List.eq_nil_of_length_eq_zero h0
  subst hl
  have hUS:=Any.unsafeString_none L X
  have c1:w.drew.cell? ⟨b,1,none⟩=some (.slice none 0 0):=by
   have:w.drew.heap[b]? = some (.cells #[p,.slice none 0 0] T (0,0)):=hbk
   rw [Lib.cell_of_heap this];rfl
  have hSD:(Builtin.unsafeSliceData_ #[(ρ.t 37)] (ρ.t 127) #[.slice none 0 0]).run P w.drew=.ok (.pointer none) w.drew:=rfl
  go_enter L.f169,Body.n169_ntmps ρ
  go_wp2
  go_region_o
  all_goals (go_wp2;go_ret;exact ⟨rfl,⟨rfl,rfl,rfl,Nat.le_refl _⟩,fun _ _=>rfl⟩)
 have hc0:cap≠0:=by
  rintro rfl
  exact hcap g (by rw [show l.length=0 by omega])
 have c1:w.drew.cell? ⟨b,1,none⟩=some (.slice (some ⟨g,0,none⟩) l.length cap):=by
  have:w.drew.heap[b]? = some (.cells #[p,.slice (some ⟨g,0,none⟩) l.length cap] T (0,0)):=hbk
  rw [Lib.cell_of_heap this];rfl
 have hSD:(Builtin.unsafeSliceData_ #[(ρ.t 37)] (ρ.t 127) #[.slice (some ⟨g,0,none⟩) l.length cap]).run P w.drew=.ok (.pointer (some ⟨g,0,none⟩)) w.drew:=
  Lib.run_unsafeSliceData_row _ _ _ _ _ _ hc0
 by_cases hl:l=[]
 ·subst hl
  have hUS:=Any.unsafeString_none L X
  clear hc0 hcap
  simp only [List.length_nil] at c1 hSD
  go_enter L.f169,Body.n169_ntmps ρ
  go_wp2
  go_region_o
  all_goals (go_wp2;go_ret;exact ⟨rfl,⟨rfl,rfl,rfl,Nat.le_refl _⟩,fun _ _=>rfl⟩)
 have hUS:(Builtin.unsafeString_ #[(ρ.t 127),(ρ.t 3)] (ρ.t 9) #[.pointer (some ⟨g,0,none⟩),.int .i64 l.length]).run P w.drew=.ok (.string ⟨l.toArray⟩) (w.drew.freeze ⟨g,0,none⟩ l.length):=by
  refine Lib.run_unsafeString_row w.drew (ρ.t 127) (ρ.t 3) (ρ.t 9) (ρ.t 5) L.t127 X.cellsByte g cur.size (by have hg':w.drew.heap[g]? = some (.cells cur (ρ.t 5) (0,0)):=hg;simp [World.shape?,hg']) l hl (by omega) (by unfold maxLen at hcm;omega) ?_
  intro j x hx
  exact hown.cells (g:=g) rfl j (.int .u8 x.toNat) (by simp [Lib.byteCells,hx])
 have hfz:∀k,g≠k→(w.drew.freeze ⟨g,0,none⟩ l.length).heap[k]? = w.heap[k]? := fun k hk=>by
  unfold World.freeze
  split
  ·rfl
  show (w.heap.modify g _)[k]? = _
  rw [Array.getElem?_modify,if_neg hk]
 have hfs:(w.drew.freeze ⟨g,0,none⟩ l.length).heap.size=w.heap.size:=by
  unfold World.freeze
  split
  ·rfl
  show (w.heap.modify g _).size=_
  simp
 have hfo:(w.drew.freeze ⟨g,0,none⟩ l.length).os=w.os∧(w.drew.freeze ⟨g,0,none⟩ l.length).tape=w.tape∧(w.drew.freeze ⟨g,0,none⟩ l.length).output=w.output:=by
  unfold World.freeze
  split<;>exact ⟨rfl,rfl,rfl⟩
 clear hc0 hcap
 go_enter L.f169,Body.n169_ntmps ρ
 go_wp2
 go_region_o
 all_goals (go_wp2;go_ret;exact ⟨rfl,⟨hfo.1,hfo.2.1,hfo.2.2,Nat.le_of_eq hfs.symm⟩,fun k hk=>hfz k (fun e=>hk (by rw [e];rfl))⟩)
end
end Go.Proofs

namespace Go.SX.Nb
open Go Go.SX Go.Proofs Go.Shelf
variable [ErrAt]
set_option maxRecDepth 8000
/-! show's builder. -/
theorem AKd:Builder.Extra Tryz.prog Tryz.ren155 where
 sizeBuilder:=by kernel_rfl
 liesBuilder:=by kernel_rfl
 t5:=Tryz.underlying5
 a5:=Tryz.isAgg5
 z5:=Tryz.sizeOf5
 v5:=Tryz.zeroValue5
 infoByte:=by kernel_rfl
 cellsByte:=by kernel_rfl
 sizeByte:=by kernel_rfl
 neB5:=by decide
theorem AKe:liesAt Tryz.prog Tryz.prog.depth 160 (2 / Tryz.prog.cellsOf 160) 0 74 1=true:=by kernel_rfl
abbrev d8 (bs:Str):AObj:=.bld 160 5 bs
theorem Em {n:Nat} {bs:Str}:ObjLow n (d8 bs):=trivial
/-- (*strings.Builder).WriteString. -/
theorem c31 (bs s:Str) (hl:bs.length+s.length≤140737488355328) (o:Nat) (Hp:List AObj) (ho:Hp[o]? = some (d8 bs)):
  ACall Tryz.prog 31 [.ptr o 0,Ac s] Hp (fun r H'=>r=.tup [A7 s.length,.v .nilIface]∧H'=Hp.set o (d8 (bs++s))):=by
 refine ACall.bldWrite ho (fun b p v w h=>?_)
 have hw:=bldWrite Tryz.lays166 AKd (T:=160) AKe (by decide) b p v bs.length (Lib.byteCells bs) ⟨s.toArray⟩ w h (by rw [Fp];exact hl)
 rw [Fp,Lib.strCells_eq,←Lib.byteCells_append] at hw
 exact hw
/-- (*strings.Builder).Len. -/
theorem c32 (bs:Str) (o:Nat) (Hp:List AObj) (ho:Hp[o]? = some (d8 bs)):AFun Tryz.prog 32 [.ptr o 0] Hp (A7 bs.length):=
 AFun.bldLen ho (fun b p v w h=>bldLen Tryz.lays170 (T:=160) (e:=5) b p v _ _ w h)
/-- (*strings.Builder).String. -/
theorem c33 (bs:Str) (o:Nat) (Hp:List AObj) (ho:Hp[o]? = some (d8 bs)):ACall Tryz.prog 33 [.ptr o 0] Hp (fun r H'=>r=Ac bs∧H'=Hp.set o (.cells 160 [.any,.any])):=
 ACall.bldString ho (fun b p v w h hc=>bldString (ρ:=Tryz.ren155) { Tryz.lays155 with } AKd (T:=160) b p v bs w h hc)
end Go.SX.Nb
namespace Go.SX.Nb
open Go Go.SX Go.Proofs
variable [ErrAt]
set_option maxRecDepth 4000
abbrev ALr:AV:=.v (.tuple #[])
abbrev K6:Nat:=1099511627776
/-- What node writes. -/
def AGn (e:Expr):Prop:=∀(o:Nat) (bs:Str) (Hp:List AObj),Hp[o]? = some (d8 bs)→bs.length+(As e).length≤K6→ACall Tryz.prog 137 [.ptr o 0,Aj e] Hp (fun r H'=>r=ALr∧H'=Hp.set o (d8 (bs++As e)))
theorem ACk (e:Expr):As e=Vk e.op e.text e.val e.kids (e.kids.map As):=by
 cases e with
 | mk o t v k=>rw [As,Q8];rfl
theorem AKf {k:List Expr} {i:Nat} (h:i<k.length):(k.map As).getD i []=As (k.getD i Ax):=by
 rw [F7,F7,D3,Ak h]
 rfl
theorem ip (l:List Str) (s:Str):Hm (l++[s])=Hm l++(44::32::s):=by
 induction l with
 | nil=>simp [Hm]
 | cons a r ih=>simp [Hm,ih]
theorem AGo {k:List Expr} {x:Nat} (h:x<k.length):(Hm ((k.take (x+1)).map As)).drop 2=(Hm ((k.take x).map As)).drop 2++(if 0<x then [44,32] else [])++As k[x]:=by
 rw [Ld h,Cu,List.map_singleton,ip]
 cases x with
 | zero=>simp [Hm]
 | succ x =>
  have:2≤(Hm ((k.take (x+1)).map As)).length:=by
   rw [Ld (by omega),Cu,List.map_singleton,ip]
   simp
   omega
  rw [List.drop_append_of_le_length this,if_pos (by omega)]
  simp
theorem ANm {k:List Expr} (x:Nat):(Hm ((k.take x).map As)).length≤(Hm (k.map As)).length:=by
 have:k.map As=(k.take x).map As++(k.drop x).map As:=by rw [←Cu,Se]
 rw [this]
 have:∀a b:List Str,(Hm a).length≤(Hm (a++b)).length:=by
  intro a b
  induction a with
  | nil=>simp [Hm]
  | cons c r ih=>simp [Hm];exact ih
 exact this _ _
theorem qt {H:List AObj} {o:Nat} {a b:AObj}:(H.set o a).set o b=H.set o b:=Bc _
theorem c171 (e:Expr) (he:AGn e) (hlev:wo e=(levE e:Int)) (least:Nat) (l0:Int) (hl0:l0=(least:Int)) (o:Nat) (bs:Str) (Hp:List AObj) (ho:Hp[o]? = some (d8 bs)) (hb:bs.length+(Nz least e (As e)).length≤K6):ACall Tryz.prog 171 [.ptr o 0,Aj e,A7 l0] Hp (fun r H'=>r=ALr∧H'=Hp.set o (d8 (bs++Nz least e (As e)))):=by
 subst hl0
 refine B0 [] [0,1,2] Tryz.func171 Tryz.ntmps171 (fun d=>?_)
 refine Z2 ?_;refine A2 [0,2,4] ?_;refine Z35 ?_;refine Ap Tryz.call169 (AQs e _) ?_;refine Z0 ?_;refine A2 [0,4,9] ?_
 refine A6 (fun ht9=>?_) (fun ht9=>?_)
 ·have hz:least≤levE e:=by
   have h:=ht9
   rw [hlev] at h
   simpa using h
  rw [show Nz least e (As e)=As e from if_pos hz] at hb ⊢
  refine Z1 ?_;refine B4 Tryz.call137 ho (by simp) Em (he o bs _ (A8 ho) (by omega)) ?_;refine Nf ?_;refine ud ?_;exact Ab .nores ⟨rfl,by simp⟩
 have hz:¬least≤levE e:=by
  have h:=ht9
  rw [hlev] at h
  simpa using h
 rw [show Nz least e (As e)=40::(As e++[41]) from if_neg hz] at hb ⊢
 simp only [Aq,Ai,B9,K6] at hb
 refine Y9 ?_
 refine B4 Tryz.call31 ho (by simp) Em (c31 bs [40] (by simp only [K6,Ai,Aq,B9] at *;omega) o _ (A8 ho)) ?_
 refine A2 [0,4] ?_;refine Z1 ?_
 refine B4 Tryz.call137 (getset ho) (by simp) Em (he o (bs++[40]) _ (A8 (getset ho)) (by simp only [K6,Ai,Aq,B9] at *;omega)) ?_
 refine A2 [0] ?_;refine Z15 ?_
 refine B4 Tryz.call31 (getset (getset ho)) (by simp) Em (c31 (bs++[40]++As e) [41] (by simp only [K6,Ai,Aq,B9] at *;omega) o _ (A8 (getset (getset ho)))) ?_
 refine Nf ?_;exact On .nores ⟨rfl,by simp⟩

theorem ASy:∀(n:Nat) (e:Expr),okE n e→E5 Cl e=true→E5 J0 e=true→AGn e:=by
 intro n
 induction n with
 | zero=>exact fun e h=>h.elim
 | succ n ih =>
 intro e hok hnd hrg o bs Hp ho hb
 have hnd0:=hnd
 have hrg0:=hrg
 rw [Hl,Ah] at hnd0 hrg0
 have hev:∀y∈e.kids,AGn y:=fun y hy=>ih y (hok.2.2 y hy) ((Gf _ _).1 hnd0.2 y hy) ((Gf _ _).1 hrg0.2 y hy)
 have hlv:∀y∈e.kids,wo y=(levE y:Int):=fun y hy=>zj (by have:=(Gf _ _).1 hnd0.2 y hy;rw [Hl,Ah] at this;exact this.1)
 obtain ⟨k5,k34,k6,kall⟩:=AGl hnd0.1
 have hi64:AJ2 e.val.n:=by
  have:=hrg0.1
  simp only [J0,Ah,decide_eq_true_eq] at this
  exact this
 have hlv0:=zj hnd0.1
 have pe:=ACk e
 have hol:=(Aa.1 ho).1
 unfold Vk at pe
 refine B0 [] [0,1] Tryz.func137 Tryz.ntmps137 (fun d=>?_)
 refine Z2 ?_;refine Qm ?_;refine Z2 ?_;refine Ap Tryz.call169 (AQs e _) ?_;refine A3 ?_;refine la ?_;refine Z1 ?_;refine A2 [0,3,4,11] ?_;refine Z84 ?_;refine A2 [0,3,4,11,12] ?_
 refine A6 (fun ht12=>?_) (fun ht12=>?_)
 ·rw [if_pos ht12] at pe
  refine W.drawQ0 [0,1,3,0,8,24,63] 6 Af (by kernel_rfl) ?_;refine aq ?_;refine Pq Tryz.call170 (AQf e.val hi64 _) ?_;refine Er ?_
  refine B4 Tryz.call31 ho (by simp) Em (c31 bs (De e.val) (by rw [pe] at hb;simp only [K6] at hb;omega) o _ (A8 ho)) ?_
  exact AB4
 rw [if_neg (by rw [ht12];simp)] at pe
 refine Z1 ?_;refine A2 [0,3,4,11,21] ?_
 refine A6 (fun ht21=>?_) (fun ht21=>?_)
 ·rw [if_pos ht21] at pe
  refine W.drawQ0 [0,1,3,0,8,31] 5 Af (by kernel_rfl) ?_;refine aq ?_;refine Er ?_
  refine B4 Tryz.call31 ho (by simp) Em (c31 bs e.text (by rw [pe] at hb;simp only [K6] at hb;omega) o _ (A8 ho)) ?_
  exact AB4
 rw [if_neg (by rw [ht21];simp)] at pe
 refine Z1 ?_;refine A2 [0,3,4,11,29] ?_
 refine A6 (fun ht29=>?_) (fun ht29=>?_)
 ·rw [if_pos ht29] at pe
  have hkl:=k34 (.inl (by simpa using ht29))
  rw [AKf (by omega)] at pe
  rw [pe] at hb
  simp only [Aq,K6] at hb
  refine Z16 ?_
  refine B4 Tryz.call31 ho (by simp) Em (c31 bs [45] (by simp only [K6,Ai,Aq,B9] at *;omega) o _ (A8 ho)) ?_
  refine Qm ?_;refine Z15 ?_
  refine A3 (h:=B2 (0) (Aj (e.kids.getD 0 Ax)) (fun _=>(Qn (by omega)).1)) (hr:=?_)
  refine A3 ?_
  refine B4 Tryz.call171 (getset ho) (by simp) Em (c171 (e.kids.getD 0 Ax) (hev _ (Qn (by omega)).2.1) (hlv _ (Qn (by omega)).2.1) (6) _ (rfl) o (bs++[45]) _ (A8 (getset ho)) (by simp only [K6,Ai,Aq,B9] at *;omega)) ?_
  exact AB4
 rw [if_neg (by rw [ht29];simp)] at pe
 refine Z1 ?_;refine A2 [0,3,4,11,41] ?_
 refine A6 (fun ht41=>?_) (fun ht41=>?_)
 ·rw [if_pos ht41] at pe
  have hkl:=k34 (.inr (by simpa using ht41))
  rw [AKf (by omega)] at pe
  rw [pe] at hb
  simp only [Aq,Ai,Q5,B9,K6] at hb
  refine Z16 ?_
  refine B4 Tryz.call31 ho (by simp) Em (c31 bs [110,111,116,32] (by simp only [K6,Ai,Aq,B9] at *;omega) o _ (A8 ho)) ?_
  refine Qm ?_;refine Z15 ?_
  refine A3 (h:=B2 (0) (Aj (e.kids.getD 0 Ax)) (fun _=>(Qn (by omega)).1)) (hr:=?_)
  refine A3 ?_
  refine B4 Tryz.call171 (getset ho) (by simp) Em (c171 (e.kids.getD 0 Ax) (hev _ (Qn (by omega)).2.1) (hlv _ (Qn (by omega)).2.1) (2) _ (rfl) o (bs++[110,111,116,32]) _ (A8 (getset ho)) (by simp only [K6,Ai,Aq,B9] at *;omega)) ?_
  exact AB4
 rw [if_neg (by rw [ht41];simp)] at pe
 refine Z1 ?_;refine A2 [0,3,4,11,53] ?_
 refine A6 (fun ht53=>?_) (fun ht53=>?_)
 ·rw [if_pos ht53] at pe
  have h5:e.op=5:=by simpa using ht53
  have hkl:=k5 h5
  have hlv5:levE e=(B8 e.text).toNat:=by simp [levE,h5]
  have hl5:=V7 e.text
  rw [AKf (by omega),AKf (by omega)] at pe
  rw [pe] at hb
  simp only [Aq,Ai,K6] at hb
  rw [hlv0,hlv5]
  refine Z1 ?_;refine o4 ?_;refine Z9 ?_;refine A2 [0,3,4,5,57] ?_
  refine A6 (fun ht57=>?_) (fun ht57=>?_)
  ·have h3:(B8 e.text).toNat=3:=by have:=ht57;simp at this;omega
   have hf1:(((B8 e.text).toNat:Int)+1)=((Fg (B8 e.text).toNat:Nat):Int):=by rw [h3];rfl
   refine Z15 ?_;refine o4 ?_;refine Ig ?_;refine Z16 ?_
   refine A3 (h:=B2 (0) (Aj (e.kids.getD 0 Ax)) (fun _=>(Qn (by omega)).1)) (hr:=?_)
   refine Z0 ?_
   refine B4 Tryz.call171 ho (by simp) Em (c171 (e.kids.getD 0 Ax) (hev _ (Qn (by omega)).2.1) (hlv _ (Qn (by omega)).2.1) (Fg (B8 e.text).toNat) _ (by first|exact hf1|rw [hf2]) o (bs) _ (A8 ho) (by simp only [K6,Ai,Aq,B9] at *;omega)) ?_
   refine APb ?_;refine aq ?_
   refine Am (h:=Pr (hl:=fun _=>by simp only [Aq,B9];omega)) (hr:=?_)
   refine Am (h:=Pr (hl:=fun _=>by simp only [Aq,B9,Ai];omega)) (hr:=?_)
   refine Er ?_
   refine B4 Tryz.call31 (getset ho) (by simp) Em (c31 (bs++Nz (Fg (B8 e.text).toNat) (e.kids.getD 0 Ax) (As (e.kids.getD 0 Ax))) (32::(e.text++[32])) (by simp only [K6,Ai,Aq,B9] at *;omega) o _ (A8 (getset ho))) ?_
   refine la ?_;refine Z15 ?_
   refine A3 (h:=B2 (1) (Aj (e.kids.getD 1 Ax)) (fun _=>(Qn (by omega)).1)) (hr:=?_)
   refine Z7 ?_
   refine B4 Tryz.call171 (getset (getset ho)) (by simp) Em (c171 (e.kids.getD 1 Ax) (hev _ (Qn (by omega)).2.1) (hlv _ (Qn (by omega)).2.1) ((B8 e.text).toNat+1) _ (by first|rfl|(push_cast;rfl)) o (bs++Nz (Fg (B8 e.text).toNat) (e.kids.getD 0 Ax) (As (e.kids.getD 0 Ax))++32::(e.text++[32])) _ (A8 (getset (getset ho))) (by simp only [K6,Ai,Aq,B9] at *;omega)) ?_
   exact AB4
  have h3:(B8 e.text).toNat≠3:=by have:=ht57;simp at this;omega
  have hf2:Fg (B8 e.text).toNat=(B8 e.text).toNat:=by unfold Fg;rw [if_neg h3]
  refine Y9 ?_
  refine A3 (h:=B2 (0) (Aj (e.kids.getD 0 Ax)) (fun _=>(Qn (by omega)).1)) (hr:=?_)
  refine Z0 ?_
  refine B4 Tryz.call171 ho (by simp) Em (c171 (e.kids.getD 0 Ax) (hev _ (Qn (by omega)).2.1) (hlv _ (Qn (by omega)).2.1) (Fg (B8 e.text).toNat) _ (by first|exact hf1|rw [hf2]) o (bs) _ (A8 ho) (by simp only [K6,Ai,Aq,B9] at *;omega)) ?_
  refine APb ?_;refine aq ?_
  refine Am (h:=Pr (hl:=fun _=>by simp only [Aq,B9];omega)) (hr:=?_)
  refine Am (h:=Pr (hl:=fun _=>by simp only [Aq,B9,Ai];omega)) (hr:=?_)
  refine Er ?_
  refine B4 Tryz.call31 (getset ho) (by simp) Em (c31 (bs++Nz (Fg (B8 e.text).toNat) (e.kids.getD 0 Ax) (As (e.kids.getD 0 Ax))) (32::(e.text++[32])) (by simp only [K6,Ai,Aq,B9] at *;omega) o _ (A8 (getset ho))) ?_
  refine la ?_;refine Z15 ?_
  refine A3 (h:=B2 (1) (Aj (e.kids.getD 1 Ax)) (fun _=>(Qn (by omega)).1)) (hr:=?_)
  refine Z7 ?_
  refine B4 Tryz.call171 (getset (getset ho)) (by simp) Em (c171 (e.kids.getD 1 Ax) (hev _ (Qn (by omega)).2.1) (hlv _ (Qn (by omega)).2.1) ((B8 e.text).toNat+1) _ (by first|rfl|(push_cast;rfl)) o (bs++Nz (Fg (B8 e.text).toNat) (e.kids.getD 0 Ax) (As (e.kids.getD 0 Ax))++32::(e.text++[32])) _ (A8 (getset (getset ho))) (by simp only [K6,Ai,Aq,B9] at *;omega)) ?_
  exact AB4
 rw [if_neg (by rw [ht53];simp)] at pe
 refine Z1 ?_;refine A2 [0,3,83] ?_
 refine A6 (fun ht83=>?_) (fun ht83=>?_)
 ·have hsl:∀x,((Hm ((e.kids.take x).map As)).drop 2).length≤((Hm (e.kids.map As)).drop 2).length:=fun x=>by have:=ANm (k:=e.kids) x;rw [Dh,Dh];omega
  have hkl6:=hok.2.1
  rw [pe] at hb
  simp only [Aq,Ai,B9,K6] at hb
  refine AMn ?_;refine aq ?_
  refine Am (h:=Pr (hl:=fun _=>by simp only [Aq,B9];omega)) (hr:=?_)
  refine Er ?_
  refine B4 Tryz.call31 ho (by simp) Em (c31 bs (e.text++[40]) (by simp only [K6,Ai,Aq,B9] at *;omega) o _ (A8 ho)) ?_
  refine Qm ?_;refine Z42 ?_;refine A2 [0,93,94,95] ?_
  refine Bo (α:=Nat) (fun x=>⟨114,A9 0 (.ptr o 0) (A9 93 (.slice false 6 (e.kids.map Aj)) (A9 94 (A7 (e.kids.length:Nat)) (A9 95 (A7 (x:Nat)) (fun _=>.any)))),Hp.set o (d8 (bs++(e.text++[40])++(Hm ((e.kids.take x).map As)).drop 2)),[],[],none⟩) (fun x=>x≤e.kids.length) (fun x=>e.kids.length-x) (0) (Al _) (Ar (by simp [Hm])) rfl (fun x hx=>?_)
  refine Z2 ?_;refine A2 [0,93,94,95,96] ?_
  refine Nc (fun ht96=>?_) (fun ht96=>?_)
  ·have hlt:x<e.kids.length:=by simpa using ht96
   have hst:=AGo hlt
   have hsl1:=hsl (x+1)
   have hslx:=hsl x
   refine Z22 ?_;refine Z2 ?_
   refine A3 (h:=B2 (x) (Aj e.kids[x]) (fun _=>Ea hlt)) (hr:=?_)
   refine A3 ?_;refine nr ?_;refine A2 [0,6,7,93,94,95] ?_;refine Z9 ?_;refine A2 [0,7,93,94,95,101] ?_
   refine A6 (fun ht101=>?_) (fun ht101=>?_)
   ·have h0x:0<x:=by simpa using ht101
    rw [if_pos h0x] at hst
    have hstl:=congrArg List.length hst
    simp only [Ai,Aq,B9] at hstl
    refine Z15 ?_
    refine B4 Tryz.call31 (getset ho) (by simp) Em (c31 (bs++(e.text++[40])++(Hm ((e.kids.take x).map As)).drop 2) [44,32] (by simp only [K6,Ai,Aq,B9] at *;omega) o _ (A8 (getset ho))) ?_
    refine A2 [0,7,93,94,95] ?_;refine Ig ?_;refine Z21 ?_
    first|refine B4 Tryz.call137 (getset ho) (by simp) Em (hev _ (D4 hlt) o (bs++(e.text++[40])++(Hm ((e.kids.take x).map As)).drop 2) _ (A8 (getset ho)) (by simp only [K6,Ai,Aq,B9] at *;omega)) ?_|refine B4 Tryz.call137 (getset (getset ho)) (by simp) Em (hev _ (D4 hlt) o (bs++(e.text++[40])++(Hm ((e.kids.take x).map As)).drop 2++[44,32]) _ (A8 (getset (getset ho))) (by simp only [K6,Ai,Aq,B9] at *;omega)) ?_
    refine A2 [0,93,94,95] ?_;refine Z12 ?_;refine Z21 ?_;refine A2 [0,93,94,95] ?_;refine Be (x+1) hlt (by omega) ?_
    simp only [hst,qt,C8,Ep]
    exact Oo (own:=[]) (fun _=>.refl _) (by repeat (first|exact H3|refine H1 (by first|exact H4|exact zi|(simp [or_imp,forall_and,oid]<;>omega)) ?_)) (by simp) (by simp)
   have h0x:¬0<x:=by simpa using ht101
   rw [if_neg h0x] at hst
   have hstl:=congrArg List.length hst
   simp only [Ai,Aq,B9] at hstl
   refine Z4 ?_;refine Z21 ?_
   first|refine B4 Tryz.call137 (getset ho) (by simp) Em (hev _ (D4 hlt) o (bs++(e.text++[40])++(Hm ((e.kids.take x).map As)).drop 2) _ (A8 (getset ho)) (by simp only [K6,Ai,Aq,B9] at *;omega)) ?_|refine B4 Tryz.call137 (getset (getset ho)) (by simp) Em (hev _ (D4 hlt) o (bs++(e.text++[40])++(Hm ((e.kids.take x).map As)).drop 2++[44,32]) _ (A8 (getset (getset ho))) (by simp only [K6,Ai,Aq,B9] at *;omega)) ?_
   refine A2 [0,93,94,95] ?_;refine Z12 ?_;refine Z21 ?_;refine A2 [0,93,94,95] ?_;refine Be (x+1) hlt (by omega) ?_
   simp only [hst,qt,C8,Ep]
   exact Oo (own:=[]) (fun _=>.refl _) (by repeat (first|exact H3|refine H1 (by first|exact H4|exact zi|(simp [or_imp,forall_and,oid]<;>omega)) ?_)) (by simp) (by simp)
  have hxe:e.kids.take x=e.kids:=Fw (by simp at ht96;omega)
  have hslx:=hsl x
  refine Z26 ?_;refine Z15 ?_
  refine B4 Tryz.call31 (getset ho) (by simp) Em (c31 (bs++(e.text++[40])++(Hm ((e.kids.take x).map As)).drop 2) [41] (by simp only [K6,Ai,Aq,B9] at *;omega) o _ (A8 (getset ho))) ?_
  refine Z96 ?_;exact On .nores ⟨rfl,by rw [pe,hxe]<;>simp⟩
 exfalso
 have h6:=kall
 simp at ht12 ht21 ht29 ht41 ht53 ht83
 omega

set_option maxRecDepth 8000
/-! How long a print is. -/
theorem wq {v:Val} (hp:Dr v=true) (hi:AJ2 v.n):(De v).length≤402:=by
 unfold De
 rw [hp]
 simp only [Hu,B1,if_false]
 split
 ·have:=Lib.itoa_length_le v.n hi.1 hi.2
  omega
 split
 ·rename_i h1 h2
  rw [Lt]
  have h3:=p9 v.s
  have h4:v.s.length≤200:=by
   have k2:v.kind=2:=by simpa using h2
   simp [Dr,k2] at hp
   omega
  simp
  omega
 split
 ·simp
 split<;>simp
theorem Zm (k:Nat) (x:Expr) (s:Str):(Nz k x s).length≤s.length+2:=by
 unfold Nz
 split<;>simp
theorem qu {t:Str} (h:0≤B8 t):t.length≤3:=by
 rcases Ly t with hm|⟨hm,_⟩
 ·have h3:(levels.flatten.all fun s=>decide (s.length≤3))=true:=by kernel_rfl
  exact of_decide_eq_true (Ay.1 h3 t hm)
 omega
theorem d9 {t:Str} {n:Nat} (h:Ce t=(n:Int)):t.length≤6:=by
 rcases U5 h with ⟨e,_⟩|⟨e,_⟩|⟨e,_⟩|⟨e,_⟩|⟨e,_⟩|⟨e,_⟩|⟨e,_⟩|⟨e,_⟩<;>rw [e]<;>decide
theorem AGp {k:List Expr} (h:∀y∈k,(As y).length+10≤440*sizeE y):(Hm (k.map As)).length≤440*Cs k:=by
 induction k with
 | nil=>simp [Hm]
 | cons y r ih =>
  have h1:=h y Ev
  have h2:=ih (fun z hz=>h z (O1 _ hz))
  simp only [Bs,Hm,Cs,Aq,Ai]
  omega
theorem iq:∀(n:Nat) (e:Expr),sizeE e≤n→E5 Cl e=true→E5 J0 e=true→(As e).length+10≤440*sizeE e
 | 0,e,h,_,_=>by rw [Ij] at h;omega
 | n+1,e,h,hn,hr=>by
  rw [Hl,Ah] at hn hr
  have hk:∀y∈e.kids,(As y).length+10≤440*sizeE y:=fun y hy=>by
   obtain ⟨i,hi⟩:=Dp hy
   obtain ⟨hlt,rfl⟩:=Aa.1 hi
   exact iq n _ (by have:=ol e hlt;omega) ((Gf _ _).1 hn.2 _ hy) ((Gf _ _).1 hr.2 _ hy)
  have hi:AJ2 e.val.n:=by
   have:=hr.1
   simp only [J0,Ah,decide_eq_true_eq] at this
   exact this
  rw [Ij]
  cases L4 hn.1 with
  | val v hp h0 =>
   rw [AFv]
   have:=wq hp (v:=v) hi
   simp only [G6,Expr.kids,Cs]
   omega
  | name t ht =>
   rw [yw]
   have:t.length≤16:=by
    cases t with
    | nil=>simp
    | cons c r =>
     simp only [H8,Ah,decide_eq_true_eq] at ht
     exact ht.1.1.1
   simp only [Bj,Expr.kids,Cs]
   omega
  | neg a =>
   rw [AFw]
   have h1:=Zm 6 a (As a)
   have h2:=hk a (by simp [Cy,Expr.kids])
   simp only [Cy,Expr.kids,Cs,Aq]
   omega
  | no a =>
   rw [ALn]
   have h1:=Zm 2 a (As a)
   have h2:=hk a (by simp [Cy,Expr.kids])
   simp only [Cy,Expr.kids,Cs,Aq,Ai,Q5,B9]
   omega
  | bin t a b ht =>
   rw [AFx]
   have h1:=Zm (Fg (B8 t).toNat) a (As a)
   have h2:=Zm ((B8 t).toNat+1) b (As b)
   have h3:=hk a (by simp [Dn,Expr.kids])
   have h4:=hk b (by simp [Dn,Expr.kids])
   have h5:=qu ht
   simp only [Dn,Expr.kids,Cs,Aq,Ai]
   omega
  | call t k ha =>
   rw [yx]
   have h1:=d9 ha
   have h2:=AGp (k:=k) hk
   rw [←Q8] at h2
   simp only [Expr.kids,Aq,Ai,Dh,B9]
   omega
theorem qv {e:Expr} (hr:Fb e=true) (hg:E5 J0 e=true):(As e).length≤132000:=by
 have h1:=Np hr
 have h2:sizeE e≤300:=by
  unfold Fb at hr
  simp only [Ah,decide_eq_true_eq] at hr
  exact hr.1.2
 have:=iq _ e (Ae _) h1 hg
 omega
set_option maxRecDepth 4000
/-- A number's two halves. -/
abbrev zk (a:Int):List AV:=[Bz (decide (a<0)),F6 ((i7 a).tmod 4294967296),F6 (IntKind.u64.wrap ((i7 a).tdiv 4294967296)),F6 0,F6 0,F6 0]
abbrev xo (own:Bool) (t:Str) (ks:List Expr):AObj:=.cells 69 [A7 6,Ac t,A7 0,A7 0,Ac [],.slice own 6 (ks.map Aj)]
theorem ANn {n:Nat} {own:Bool} {t:Str} {ks:List Expr}:ObjLow n (xo own t ks):=by
 show ∀z∈[A7 6,Ac t,A7 0,A7 0,Ac [],AV.slice own 6 (ks.map Aj)],Low n z
 intro z hz
 simp only [C9,Hc,or_false] at hz
 rcases hz with rfl|rfl|rfl|rfl|rfl|rfl
 all_goals first|exact H4|simp
theorem AKg:Fk (.agg #[.int .i64 0,.string ⟨#[]⟩,.int .i64 0,.int .i64 0,.string ⟨#[]⟩,.slice none 0 0])=.agg [A7 0,Ac [],A7 0,A7 0,Ac [],.nil]:=rfl
attribute [go_sem] AKg
theorem gA {Hp:List AObj} {o ox:Nat} {z A B:AObj} (ho:Hp[o]? = some z) (hne:ox≠o):((Hp.set o A).set ox B)[o]? = some A:=by rw [List.getElem?_set_ne hne];exact getset ho
theorem gB {Hp:List AObj} {o ox:Nat} {z A B:AObj} (hox:Hp[ox]? = some z):((Hp.set o A).set ox B)[ox]? = some B:=by
 have:=(List.getElem?_eq_some_iff.1 hox).1
 simp [this]
theorem ACl {Hp:List AObj} {o ox:Nat} {A A' B:AObj} (hne:ox≠o):((Hp.set o A).set ox B).set o A'=(Hp.set o A').set ox B:=by rw [List.set_comm _ _ hne,List.set_set]
theorem U9 (ks:List Expr) (x:Expr):ks.map Aj++[.agg [.v (.int .i64 x.op),.v (sv x.text),.v (.int .i64 x.val.kind),.v (.int .i64 x.val.n),.v (sv x.val.s),.slice false 6 (x.kids.map Aj)]]=(ks++[x]).map Aj:=by rw [List.map_append,List.map_cons,List.map_nil,Ad x]
theorem ASz (l:List Tok) (S:PS) (t:Str) (Dv:Fam) (o ox:Nat) (Hp:List AObj) (hne:ox≠o) (ho:Hp[o]? = some (pr l S)) (hox:Hp[ox]? = some (xo true t [])) (hi:S.i<l.length) (hl:TokEnd l) (hll:l.length≤1048576) (hf:Co l S.nest Dv.ei) (hcf:PC 215 l Dv.ei S.nest):ACall Tryz.prog 275 [.ptr ox 0,.ro [.ptr o 0]] Hp (fun r H'=>r=Aj (.mk 6 t noV (Ik l Dv.ei S).1)∧H'=(Hp.set o (pr l (Ik l Dv.ei S).2)).set ox (xo true t (Ik l Dv.ei S).1)):=by
 have hoxl:=(List.getElem?_eq_some_iff.1 hox).1
 have hol:=(List.getElem?_eq_some_iff.1 ho).1
 refine ACall.body [.cell 2 69] [0,1] Tryz.func275 Tryz.ntmps275 (fun d=>?_)
 refine Z24 ?_;refine R.fin [0,1,2] ?_
 refine W.drawT [0,1,0,4,3,0,63,127,255,127,639] [1,3] [.q 1 [] [0],.s [4] (some 0) [] [],.q 1 [] [1],.s [6] (some 1) [] [],.q 2 [] []] (fun B=>(Hp.set o (if B 1=true then pr l (Dv.ei S).2 else pr l S)).set ox (if B 0=true then xo false t [] else xo true t [])) (fun _=>[Ov]) Af (by kernel_rfl) (by simp only [Bool.false_eq_true,if_false];rw [E8 ho,E8 hox]) rfl (fun B=>by simp) ?_
 apply Y.q
 ·intro B hT hF
  exact Z29
 case hTF=>decide
 refine Y.loadUpT (o:=ox) (t':=69) (cs:=[A7 6,Ac t,A7 0,A7 0,Ac [],.slice true 6 ([].map Aj)]) (cs':=[A7 6,Ac t,A7 0,A7 0,Ac [],.slice false 6 ([].map Aj)]) Tryz.isAgg45 (fun B hB=>⟨by simp only [hB];exact gB hox,by simp [upd,List.set_set]<;>rfl,rfl⟩) ?_
 apply Y.q
 ·intro B hT hF
  exact Z29
 case hTF=>decide
 refine Y.callUp (r:=Aj (Dv.ei S).1) (o:=o) (x0:=pr l S) (x:=pr l (Dv.ei S).2) Tryz.call215 (fun B hT hF hB=>⟨by simp only [hB];exact gA ho hne,?_,rfl,Dz,?_⟩) ?_
 ·simp only [upd,hB,Nat.reduceEqDiff,if_false,if_true,Bool.false_eq_true]
  exact (ACl hne).symm
 ·simp only [hB]
  exact hcf o _ S (A8 (gA ho hne)) hi rfl
 apply Y.q
 ·intro B hT hF
  exact l8
 case hTF=>decide
 refine Y.appendPut (tn:=[1,3]) (U:=(Hp.set o (pr l (Dv.ei S).2)).set ox (xo false t [])) (O:=[Ov]) (o:=ox) (t':=69) (cs:=[A7 6,Ac t,A7 0,A7 0,Ac [],.slice false 6 ([].map Aj)]) (by kernel_rfl) jU Tryz.type69 Tryz.sizeOf69 Tryz.sizeOf45 jU (A8 (gB hox)) ?_ ?_ ?_ (hfsz:=Tryz.sizeOf45)
 ·simp [Tryz.t69]
 ·simp [Tryz.t69]
 refine R.go ?_
 refine R.storeUpT jS (gB hox) ?_ ?_
 ·first|(rw [U9];exact H4)|(have:=H4 (n:=((Hp.set o (pr l (Dv.ei S).2)).set ox (xo false t [])).length) (k:=6) (o:=true) (l:=[(Dv.ei S).1]);simp only [List.map_cons,List.map_nil,Ad] at this;exact this)
 refine R.fin [0,1,2] ?_;refine W.seq ?_
 refine AW.loopC (α:=List Expr×PS) (fun r=>⟨34,A9 0 (.ptr ox 0) (A9 1 (.ro [.ptr o 0]) (A9 2 (.ptr (oid Hp.length 0) 0) (fun _=>.any))),(Hp.set o (pr l r.2)).set ox (xo true t r.1),[Ov],[],none⟩) (fun r=>ArgsAt l Dv.ei S r) (fun r=>l.length-r.2.i) (([(Dv.ei S).1],(Dv.ei S).2)) (.start (hf S hi rfl)) (StLe.of_eq (by simp [List.set_set,xo,Ad])) rfl (fun r hx=>?_)
 refine Z42 ?_
 refine R.go (h:=Q.loadUp (gA ho hne)) (hr:=?_)
 refine Wg ?_;refine G.call Tryz.call244 (fun hB=>pu l r.2 Mi o _ (A8 (gA ho hne)) hx.fact.lt hl (by decide)) ?_;refine R.go ?_;refine R.fin [0,1,2,21] ?_
 refine W.cond (fun ht21=>?_) (fun ht21=>?_)
 ·have hon:=hx.on hl ht21 hf
  have hle:=hon.2.1.le
  have hlt0:=hx.fact.lt
  refine ec ?_;refine Z2 ?_;refine R.callUp Tryz.call245 (gA ho hne) (by simp) Dz (AFh l r.2 o _ (A8 (gA ho hne)) hx.fact.lt hll) ?_;refine R.fin [0,1,2] ?_
  refine W.drawT0 [0,1,0,4,3,0,63,127,255,127,639] [1,3] [.q 1 [] [0],.s [25] (some 0) [] [],.q 1 [] [1],.s [27] (some 1) [] [],.q 2 [] []] (fun B=>(Hp.set o (if B 1=true then pr l (Dv.ei (A5 r.2)).2 else pr l (A5 r.2))).set ox (if B 0=true then xo false t r.1 else xo true t r.1)) (fun _=>[Ov]) Af (by kernel_rfl) (by simp only [Bool.false_eq_true,if_false];exact (ACl hne).symm) rfl (fun B=>by simp) ?_
  apply Y.q
  ·intro B hT hF
   exact Z29
  case hTF=>decide
  refine Y.loadUpT (o:=ox) (t':=69) (cs:=[A7 6,Ac t,A7 0,A7 0,Ac [],.slice true 6 (r.1.map Aj)]) (cs':=[A7 6,Ac t,A7 0,A7 0,Ac [],.slice false 6 (r.1.map Aj)]) Tryz.isAgg45 (fun B hB=>⟨by simp only [hB];exact gB hox,by simp [upd,List.set_set]<;>rfl,rfl⟩) ?_
  apply Y.q
  ·intro B hT hF
   exact Z29
  case hTF=>decide
  refine Y.callUp (r:=Aj (Dv.ei (A5 r.2)).1) (o:=o) (x0:=pr l (A5 r.2)) (x:=pr l (Dv.ei (A5 r.2)).2) Tryz.call215 (fun B hT hF hB=>⟨by simp only [hB];exact gA ho hne,?_,rfl,Dz,?_⟩) ?_
  ·simp only [upd,hB,Nat.reduceEqDiff,if_false,if_true,Bool.false_eq_true]
   exact (ACl hne).symm
  ·simp only [hB]
   exact hcf o _ (A5 r.2) (A8 (gA ho hne)) hon.1 hx.fact.nest
  apply Y.q
  ·intro B hT hF
   exact l8
  case hTF=>decide
  refine Y.appendPut (tn:=[1,3]) (U:=(Hp.set o (pr l (Dv.ei (A5 r.2)).2)).set ox (xo false t r.1)) (O:=[Ov]) (o:=ox) (t':=69) (cs:=[A7 6,Ac t,A7 0,A7 0,Ac [],.slice false 6 (r.1.map Aj)]) (by kernel_rfl) jU Tryz.type69 Tryz.sizeOf69 Tryz.sizeOf45 jU (A8 (gB hox)) ?_ ?_ ?_ (hfsz:=Tryz.sizeOf45)
  ·have:=hx.fact.len;have:=hx.fact.lt;simp only [List.length_map,Tryz.t69];omega
  ·have:=hx.fact.len;have:=hx.fact.lt;simp only [List.length_map,Tryz.t69];omega
  refine R.go ?_
  refine R.storeUpT jS (gB hox) ?_ ?_
  ·first|(rw [U9];exact H4)|(have:=H4 (n:=((Hp.set o (pr l (Dv.ei S).2)).set ox (xo false t [])).length) (k:=6) (o:=true) (l:=[(Dv.ei S).1]);simp only [List.map_cons,List.map_nil,Ad] at this;exact this)
  refine R.fin [0,1,2] ?_;refine K.blN ?_
  refine K.lpN (r.1++[(Dv.ei (A5 r.2)).1],(Dv.ei (A5 r.2)).2) hon.2.2 (by show l.length-(Dv.ei (A5 r.2)).2.i<l.length-r.2.i;have:r.2.i+1≤(Dv.ei (A5 r.2)).2.i:=hle;omega) (StCut.of_eq ?_)
  simp only [show Tryz.t69.size=6 from rfl,U9,List.set_set]
 have hout:=hx.out (by rw [ht21];simp)
 refine Z41 ?_;refine Ei ?_
 refine R.go (h:=Q.loadUpN (gB hox)) (hr:=?_)
 refine Z18 ?_;exact K.fin (V.one (V.cellN jA jS)) ⟨by rw [hout,m9];rfl,by rw [hout]⟩ (hlow:=by have:=At Hp.length (.mk 6 t noV r.1);rw [m9] at this;simpa using this)

/-- within, with the function that gathers a call's kids. -/
theorem AQt (l:List Tok) (S:PS) (a:Int) (t:Str) (Dv:Fam) (o:Nat) (Hp:List AObj) (A0 A1:AObj) (l0:ObjLow 0 A0) (ho:Hp[o]? = some (pr l S)) (hi:S.i<l.length) (hl:TokEnd l) (hll:l.length≤1048576) (hnl:S.nest≤30) (hd:DeepC l Dv S.nest):
  ACall Tryz.prog 259 [.ptr o 0,A7 a,.fn (.func 275) [] [.ptr (oid Hp.length 2) 0,.ro [.ptr o 0]]] (Hp++[A0,A1,xo true t []]) (fun r H'=>r=Aj (if S.nest=30 then Ax else .mk 6 t noV (Ke l a Dv.ei S).1)∧H'=Hp.set o (pr l (Ke l a Dv.ei S).2)++[A0,A1,xo true t (Ke l a Dv.ei S).1]):=by
 have hlt:=(Aa.1 ho).1
 have ho':(Hp++[A0,A1,xo true t []])[o]? = some (pr l S):=A8 ho
 by_cases h30:S.nest=30
 ·refine (AJl l S a 275 [] [.ptr (oid Hp.length 2) 0,.ro [.ptr o 0]] Ax (B7 S) o (Hp++[A0,A1,xo true t []]) ((Hp++[A0,A1,xo true t []]).set o (pr l (B7 S))) ho' (by omega) Tryz.call275 (by simp) (getset ho') rfl (fun h=>h) (fun h=>absurd h30 h)).mono fun r H' h=>?_
  have e:Ke l a Dv.ei S=([],C7 18 a S):=if_pos (by rw [h30];rfl)
  rw [e,if_pos h30]
  obtain ⟨h1,h2⟩:=h.1 h30
  exact ⟨h1,by rw [h2,Ir _ _ hlt]⟩
 have hq:=U3 (S:=B7 S) hl hi (hd.ei h30).1
 refine (AJl l S a 275 [] [.ptr (oid Hp.length 2) 0,.ro [.ptr o 0]] (.mk 6 t noV (Ik l Dv.ei (B7 S)).1) (Ik l Dv.ei (B7 S)).2 o (Hp++[A0,A1,xo true t []]) (Hp.set o (pr l (Ik l Dv.ei (B7 S)).2)++[A0,A1,xo true t (Ik l Dv.ei (B7 S)).1]) ho' (by omega) Tryz.call275 (by simp) (A8 (getset ho)) hq.nest (fun h y hy=>?_) (fun _ own=>?_)).mono fun r H' h=>?_
 ·rw [Ir _ _ hlt] at h
  rcases Di.1 hy with hy|hy
  ·rcases K8 hy with h1|h1
   ·obtain ⟨i,hi',rfl⟩:=Qy h1
    by_cases hio:i=o
    ·subst hio
     have:Hp[i]=pr l S:=by rw [Ak hi'] at ho;injection ho
     rw [this];exact Dz
    refine h _ (xz _ ?_)
    rw [y6]
    exact ⟨i,by rw [Gj (Ne.symm hio),Ak hi']⟩
   rw [h1];exact Dz
  simp only [C9,Hc,or_false] at hy
  rcases hy with rfl|rfl|rfl
  ·exact h _ (Pg _ (by simp))
  ·exact h _ (Pg _ (by simp))
  exact ANn
 ·have hoid:oid Hp.length 2≠o:=by unfold oid;omega
  have e1:(Hp++[A0,A1,xo true t []]).set o (pr l (B7 S))++own=(Hp.set o (pr l (B7 S))++[A0,A1,xo true t []])++own:=by rw [Ir _ _ hlt]
  rw [e1]
  have g1:((Hp.set o (pr l (B7 S))++[A0,A1,xo true t []])++own)[o]? = some (pr l (B7 S)):=A8 (A8 (getset ho))
  have g2:((Hp.set o (pr l (B7 S))++[A0,A1,xo true t []])++own)[oid Hp.length 2]? = some (xo true t []):=A8 (by
   have:=Cj (U:=Hp.set o (pr l (B7 S))) (O:=[A0,A1,xo true t []]) (n:=2)
   rw [Bg] at this
   exact this)
  refine (ASz l (B7 S) t Dv o (oid Hp.length 2) _ hoid g1 g2 hi hl hll (hd.ei h30).1 (hd.ei h30).2).mono fun r H' h=>⟨h.1,h.2.trans ?_⟩
  rw [C8,Ir _ _ (by simpa using hlt),Bc]
  have:=O8 (U:=Hp.set o (pr l (Ik l Dv.ei (B7 S)).2)) (O:=[A0,A1,xo true t []]++own) (n:=2) (x:=xo true t (Ik l Dv.ei (B7 S)).1)
  rw [Bg] at this
  rw [this]
  simp
 have e:Ke l a Dv.ei S=((Ik l Dv.ei (B7 S)).1,Hq (Ik l Dv.ei (B7 S)).2):=if_neg (by
  show ¬(((S.nest:Int)==30)=true)
  simp
  omega)
 rw [e,if_neg h30]
 obtain ⟨h1,h2⟩:=h.2 h30
 exact ⟨h1,by rw [h2,Ir _ _ (by simpa using hlt),Bc]⟩
theorem AT0 (l:List Tok) (S:PS) (Dv:Fam) (t:Tok) (o:Nat) (Hp:List AObj) (ho:Hp[o]? = some (pr l S)) (hi:(A5 S).i<l.length) (hl:TokEnd l) (hll:l.length≤1048576) (hnl:S.nest≤30) (hd:DeepC l Dv S.nest):ACall Tryz.prog 273 [.ptr o 0,En t] Hp (fun r H'=>r=Aj (I6 l Dv t S).1∧H'=Hp.set o (pr l (I6 l Dv t S).2)):=by
 have hi0:S.i<l.length:=by have:S.i+1<l.length:=hi;omega
 have hol:=(Aa.1 ho).1
 have hkf:KFact l (A5 S) (Br l Dv S):=bi hl _ hi (fun h=>(hd.ei h).1)
 refine B0 [.cell 4 69] [0,1] Tryz.func273 Tryz.ntmps273 (fun d=>?_)
 refine Z1 ?_;refine Ka jZ ?_;refine A2 [2,3,4] ?_;refine Z1 ?_;refine Ap Tryz.call145 (c145 t.text _) ?_;refine A3 ?_;refine ny ?_;refine Z9 ?_;refine A2 [2,3,4,5,12] ?_
 refine A6 (fun ht12=>?_) (fun ht12=>?_)
 ·have hlt0:Ce t.text<0:=by simpa using ht12
  have e:I6 l Dv t S=(Ax,C7 9 t.at_ S):=if_pos hlt0
  refine Z16 ?_;refine B4 Tryz.call217 ho (by simp) Dz (ABu l S 9 t.at_ o _ (A8 ho)) ?_;refine np ?_;exact Z64
 have hge:¬Ce t.text<0:=by simpa using ht12
 refine ar ?_;refine B4 Tryz.call245 ho (by simp) Dz (AFh l S o _ (A8 ho) hi0 hll) ?_;refine Z11 ?_;refine A2 [2,3,4,5,6] ?_;refine AM4 ?_;refine Z11 ?_;refine A2 [2,3,4,5,6,7] ?_;refine Ei ?_;refine Mg 2 5 6 ?_;refine Z7 ?_;refine Jj ?_
 refine Gm (up':=(Hp.set o (pr l (A5 S))).set o (pr l (Br l Dv S).2)) (own':=[Ov,.cells 59 [A7 (A4 l S.i).kind,Ac (A4 l S.i).text,A7 (A4 l S.i).at_],xo true t.text (Br l Dv S).1]) Tryz.call259 (by have:=AQt l (A5 S) (A4 l S.i).at_ t.text Dv o (Hp.set o (pr l (A5 S))) Ov (.cells 59 [A7 (A4 l S.i).kind,Ac (A4 l S.i).text,A7 (A4 l S.i).at_]) ym (getset ho) hi hl hll hnl hd;rw [Bg] at this;exact this) (by simp) (fun h=>AJn h Dz) ?_
 refine A2 [2,3,4,5,7] ?_;refine Z2 ?_;refine B4 Tryz.call274 (getset (getset ho)) (by simp) Dz (AQi l (Br l Dv S).2 Bu o _ (A8 (getset (getset ho))) hkf.lt hll) ?_;refine A2 [2,3,4,5,7] ?_;refine Z42 ?_
 refine A3 (h:=An (getset (getset (getset ho)))) (hr:=?_)
 refine Z48 ?_;refine Z55 ?_;refine A2 [2,3,4,7,41] ?_
 refine A6 (fun ht41=>?_) (fun ht41=>?_)
 ·have e:I6 l Dv t S=(Ax,C7 8 t.at_ (Bx l Bu (Br l Dv S).2)):=by
   unfold I6
   rw [if_neg hge,if_pos (by have:=ht41;simp only [Bh] at this;exact this)]
  refine Z16 ?_;refine B4 Tryz.call217 (getset (getset (getset ho))) (by simp) Dz (ABu l (Bx l Bu (Br l Dv S).2) 8 t.at_ o _ (A8 (getset (getset (getset ho))))) ?_;refine np ?_;refine Dd ?_;exact Ab (Ao (B5 jA jS)) ⟨by rw [e,Ad],by rw [e,Bc,Bc,Bc]⟩ (hlow:=low_agg _)
 have e:I6 l Dv t S=(.mk 6 t.text noV (Br l Dv S).1,(Bx l Bu (Br l Dv S).2)):=by
  unfold I6
  rw [if_neg hge,if_neg (by have:=ht41;simp only [Bh] at this;rw [Qr] at this;exact this)]
 refine ar ?_;refine np ?_;exact Ab (Ao (B5 jA jS)) ⟨by rw [e,m9];rfl,by rw [e,Bc,Bc]⟩ (hlow:=by have:=At Hp.length (.mk 6 t.text noV (Br l Dv S).1);rw [m9] at this;simpa using this)

theorem ACm {l:List Tok} (hl:TokEnd l) (hll:l.length≤1048576) (n:Nat) (Dv:Fam) (hn:n≤30) (hd:DeepC l Dv n):pv l Dv n:=fun o Hp S t ho hi hS _ _=>by
 subst hS
 exact AT0 l S Dv t o Hp ho hi hl hll hn hd
theorem wr {e:Expr} (h:Cl e=true):e.text.length≤16∧e.kids.length≤8:=by
 cases L4 h with
 | val v hp h0=>exact ⟨by simp [G6,Expr.text],by simp [G6,Expr.kids]⟩
 | name t ht =>
  refine ⟨?_,by simp [Bj,Expr.kids]⟩
  show t.length≤16
  cases t with
  | nil=>simp
  | cons c r =>
   simp only [H8,Ah,decide_eq_true_eq] at ht
   exact ht.1.1.1
 | neg a=>exact ⟨by simp [Cy,Expr.text],by simp [Cy,Expr.kids]⟩
 | no a=>exact ⟨by simp [Cy,Expr.text],by simp [Cy,Expr.kids]⟩
 | bin t a b ht=>exact ⟨by have:=qu ht;show t.length≤16;omega,by simp [Dn,Expr.kids]⟩
 | call t k ha =>
  refine ⟨by have:=d9 ha;show t.length≤16;omega,?_⟩
  show k.length≤8
  rcases U5 ha with ⟨_,e⟩|⟨_,e⟩|⟨_,e⟩|⟨_,e⟩|⟨_,e⟩|⟨_,e⟩|⟨_,e⟩|⟨_,e⟩<;>omega
theorem ir:∀{l:List Expr} {y:Expr},y∈l→depthE y≤Ff l
 | a::r,y,h=>by
  rw [Ff]
  rcases C9.1 h with rfl|h
  ·omega
  have:=ir h
  omega
theorem zl:∀(n:Nat) (e:Expr),depthE e≤n→E5 Cl e=true→okE n e
 | 0,e,h,_=>by rw [Sv] at h;omega
 | n+1,e,h,hn=>by
  rw [Hl,Ah] at hn
  rw [Sv] at h
  have hs:=wr hn.1
  refine ⟨by omega,by omega,fun y hy=>zl n y (by have:=ir hy;omega) ((Gf _ _).1 hn.2 y hy)⟩
theorem iu {e:Expr} (h:Fb e=true):okE 30 e∧sizeE e≤300:=by
 have h1:=Np h
 unfold Fb at h
 simp only [Ah,decide_eq_true_eq] at h
 exact ⟨zl 30 e h.1.1 h1,h.1.2⟩
theorem AT1 (n:Nat) (e:Expr) (hok:okE n e) (hn:n≤1048576) (hg:E5 J0 e=true) (Hp:List AObj):AFun Tryz.prog 101 [Aj e] Hp (.tup [Ac (J4 e).1,A7 (J4 e).2]):=by
 refine B0 [.tmp 2,.tmp 3] [0] Tryz.func101 Tryz.ntmps101 (fun d=>?_)
 refine Z16 ?_;refine A2 [1] ?_;refine Z35 ?_;refine Ap Tryz.call70 (c70 n e hok hn _) ?_;refine A3 ?_;refine A2 [1,7] ?_
 refine A6 (fun ht7=>?_) (fun ht7=>?_)
 ·have hsh:J4 e=([],1):=if_pos ht7
  exact AOn
 have hnr:¬(!(Da e))=true:=by rw [ht7];simp
 have hr:Fb e=true:=by rw [←Kf];simpa using ht7
 have hps:=qv hr hg
 refine Y8 ?_;refine Pt (places:=#[(0,2)]) jU (fun w=>by simp) jZ ?_;refine Ps ?_;refine A3 ?_;refine A2 [1,4] ?_;refine Ei ?_;refine R.toBld 0 160 5 ?_;refine Z0 ?_
 refine Md (n:=0) (x:=d8 (As e)) Tryz.call137 (ASy n e hok (Np hr) hg (oid Hp.length 0) [] _ (by rw [Cj];rfl) (by simp only [K6,B9];omega)) ?_
 refine A2 [4] ?_;refine Z50 ?_
 refine Ap Tryz.call32 (c32 (As e) (oid Hp.length 0) _ (by rw [Cj];rfl)) ?_
 refine A3 ?_;refine A2 [4,17] ?_
 refine A6 (fun ht17=>?_) (fun ht17=>?_)
 ·have hsh:J4 e=([],3):=by unfold J4;rw [if_neg hnr,if_pos ht17]
  exact AOn
 have hsh:J4 e=(As e,0):=by unfold J4;rw [if_neg hnr,if_neg (by rw [ht17];simp)]
 refine Y9 ?_
 refine Md (n:=0) (x:=.cells 160 [.any,.any]) Tryz.call33 (c33 (As e) (oid Hp.length 0) _ (by rw [Cj];rfl)) ?_
 refine Z0 ?_;refine Z14 ?_;exact APu

/-! fuse.Forth and plan.Text. -/
/-! The text. -/
/-! ONE LINE EACH. -/
/-! How long plan.Text's pieces are. -/
theorem AGq:liesAt Tryz.prog Tryz.prog.depth 74 (2 / Tryz.prog.cellsOf 74) 0 74 1=true:=by kernel_rfl
abbrev qw (bs:Str):AObj:=.bld 74 5 bs
theorem AGr {n:Nat} {bs:Str}:ObjLow n (qw bs):=trivial
theorem AT2 (bs s:Str) (hl:bs.length+s.length≤140737488355328) (o:Nat) (Hp:List AObj) (ho:Hp[o]? = some (qw bs)):
  ACall Tryz.prog 31 [.ptr o 0,Ac s] Hp (fun r H'=>r=.tup [A7 s.length,.v .nilIface]∧H'=Hp.set o (qw (bs++s))):=by
 refine ACall.bldWrite ho (fun b p v w h=>?_)
 have hw:=bldWrite Tryz.lays166 AKd (T:=74) AGq (by decide) b p v bs.length (Lib.byteCells bs) ⟨s.toArray⟩ w h (by rw [Fp];exact hl)
 rw [Fp,Lib.strCells_eq,←Lib.byteCells_append] at hw
 exact hw
theorem AT3 (bs:Str) (o:Nat) (Hp:List AObj) (ho:Hp[o]? = some (qw bs)):ACall Tryz.prog 33 [.ptr o 0] Hp (fun r H'=>r=Ac bs∧H'=Hp.set o (.cells 74 [.any,.any])):=
 ACall.bldString ho (fun b p v w h hc=>bldString (ρ:=Tryz.ren155) { Tryz.lays155 with } AKd (T:=74) b p v bs w h hc)
section
variable {O X U:List AObj} {i:Nat} {b y:AObj}
end
end Go.SX.Nb
namespace Go.SX
variable [GI:GlobInv]
open Classical
/-- An object that no memory holds: what is told of a state behind an operation that surely panics. -/
def ACn:AObj:=.cells 0 [.agg [.agg []]]
def bot (b:Bool):List AObj:=if b then [ACn] else []
theorem ANo {G:Gh} {w:World} {i:Nat}:¬ObjRel G w i ACn:=fun h=>by
 obtain ⟨u,_,hr⟩:=P1 (y:=.agg [.agg []]) (j:=0) h rfl
 cases hr with
 | agg _ _ vs hn h1 _=>exact absurd (h1 _ (C1.2 rfl)) (by simp [AV.one])
section
variable {P:Program} {d:Nat}
theorem StRel.bot {G:Gh} {st:St} {a:Act} {w:World} (h:StRel d G st a w) (hb:ACn∈st.own):False:=by
 obtain ⟨i,hi⟩:=Dp (Pg st.up hb)
 exact ANo (h.heap.obj i _ hi)
theorem Zn {b:Bool} {l:List AObj} (h:b=true):ACn∈l++bot b:=by subst h;exact Pg _ (C1.2 rfl)
variable {sz:Nat} {dfs:List Nat} {rnd:Option Nat} {l0:List Oper} {up own:(Nat→Bool)→List AObj} {KP:List PanicEntry→St→Prop} {E:List Oper→(Nat→AV)→Prop} {S:List SegY} {l:List Oper} {fr:Nat→AV} {ty:TypeId} {pos:String} {aft:Array Edge} {s:Nat} {T F:List Nat}
/-- What stands behind the operation that panics never runs. -/
theorem Y.bot {W:List Nat} {o:Oper} (hb:∀B:Nat→Bool,(∀p∈T,B p=true)→ACn∈own B) (h:ChainY P d l0 sz up own dfs rnd KP E S l (Lo (W.map fun s=>(s,.any)) fr)) (hg:o.guard=none:=by rfl):
  ChainY P d l0 sz up own dfs rnd KP E (.s W none T F::S) (o::l) fr:=by
 refine ⟨_,l,W.map fun s=>(s,.any),rfl,⟨?_,hg,fun B f hT _ _ _ G a w hr=>?_⟩,h⟩
 ·simp [Function.comp_def]
 exact (StRel.bot hr (hb B hT)).elim
theorem Y.endBot {tn:List Nat} {Q:St→Prop} (hb:ACn∈own (fun p=>decide (p<tn.length))):ChainY P d l0 sz up own dfs rnd KP (fun l' f=>ARun P d l0.toArray l' ⟨sz,f,up (fun p=>decide (p<tn.length)),own (fun p=>decide (p<tn.length)),dfs,rnd⟩ Q) [] l fr:=
 fun G a w hr=>(StRel.bot hr hb).elim
/-- A call that surely panics. -/
theorem Y.callBad {f0:Operand} {g:FuncId} {xs:List Operand} {ats:Array TypeId} {first caps args:List AV} {pn:Nat} {up0 own0:List AObj} {pp:Value→List AObj→Prop} (hcall:∀args w,(callFunc g args).run P w=.ok (.enter g args) w)
  (hU:∀B:Nat→Bool,B pn=false→up B=up0∧own B=own0) (hA:ACallP P g args (up0++own0) (fun _ _=>False) pp)
  (hpp:∀x U O f,U.length=up0.length→(U++O).length=(up0++own0).length→pp x (U++O)→((∀x∈up0,ObjLow U.length x)→∀x∈U,ObjLow U.length x)∧(∀o∈dfs,(up0++own0)[o]? = some .defs→(U++O)[o]? = some .defs)∧KP (Jl x) ⟨sz,f,U,O,dfs,rnd⟩)
  (h:ChainY P d l0 sz up own dfs rnd KP E S l (A9 s .any fr))
  (hf0:Ba fr f0=.fn (.func g) first caps:=by exact sL0) (ha:first++xs.map (Ba fr)++caps=args:=by exact sL0):
  ChainY P d l0 sz up own dfs rnd KP E (.s [s] (some pn) T F::S) (⟨some s,.call ⟨.value f0,xs.toArray,ats⟩,ty,pos,aft,none⟩::l) fr:=by
 refine ⟨_,l,[(s,.any)],rfl,⟨rfl,rfl,fun B f _ _ hB hf G a w hr=>?_⟩,h⟩
 obtain ⟨e1,e2⟩:=hU B (hB pn rfl)
 rw [e1,e2] at hr ⊢
 have e:first++xs.map (Ba f)++caps=args:=by rw [u7 hf (fun x hx=>by simp [Op.operands,Call.operands,hx])];exact ha
 have e0:Ba f f0=.fn (.func g) first caps:=by rw [agr hf (by simp [Op.operands,Call.operands])];exact hf0
 have hev:St.ev ⟨sz,f,up0,own0,dfs,rnd⟩ f0=.fn (.func g) first caps:=e0
 have hfr:=hev ▸ hr.eval f0
 generalize hfv:a.eval f0=fv at hfr
 cases hfr with
 | fn _ _ _ _ va vc hna hnc h1 h2 =>
  have hxr:=Un hr xs
  subst e
  refine Xl (by intro c h;cases h) (Pp hcall hfv) (hA d G w _ (by simp [hna,hnc]) (fun i y u hy hu=>?_) hr.heap hr.tags hr.top) ?_
  ·rw [C8] at hy
   rw [mm] at hu
   rcases Aw i first.length with hi|hi
   ·rw [Do hi] at hy
    rw [Kp (by omega)] at hu
    exact (h1 i y u hy hu).lift
   rw [Dg hi] at hy
   rw [O0 (by omega),hna] at hu
   rcases Aw (i-first.length) xs.length with hj|hj
   ·rw [Do (by simpa using hj)] at hy
    rw [Kp (by simpa using hj)] at hu
    exact (hxr _ y u hy hu).lift
   rw [Dg (by simpa using hj)] at hy
   rw [O0 (by simpa using hj)] at hu
   simp only [Bh,K9] at hy hu
   exact (h2 _ y u hy hu).lift
  rintro e w' (⟨v,G',y,H',rfl,hrep,hH,hT,hk,hlen,hpo⟩|⟨x,G',H',rfl,hH,hT,hk,hlen,hpo⟩)
  ·exact hpo.elim
  have hl':up0.length≤H'.length:=by rw [hlen];simp
  obtain ⟨U,hU'⟩:∃U,U=H'.take up0.length:=⟨_,rfl⟩
  obtain ⟨O,hO⟩:∃O,O=H'.drop up0.length:=⟨_,rfl⟩
  have e1':H'=U++O:=by rw [hU',hO];exact (Se _ _).symm
  have e2':U.length=up0.length:=by rw [hU'];simp;omega
  subst e1'
  obtain ⟨q1,q2,q3⟩:=hpp x U O f e2' hlen hpo
  have h3:=hr.called hH hT hk rfl e2' (fun o ho=>q2 o ho (hr.defsAt o ho)) (q1 (by rw [e2'];exact hr.low))
  exact .inr ⟨_,rfl,_,rfl,_,_,h3,hk.less (I4 d),e2',rfl,rfl,rfl,q3⟩
/-- A panic, drawn. -/
theorem Y.panic {x:Operand} {t:TypeId} {vs:List Value} {pn:Nat} (hq:∀B:Nat→Bool,B pn=false→∀f,KP (Jl (.iface t (.agg vs.toArray))) ⟨sz,f,up B,own B,dfs,rnd⟩) (h:ChainY P d l0 sz up own dfs rnd KP E S l fr)
  (hx:Ba fr x=.iface t (.agg (vs.map .v)):=by exact sL0):
  ChainY P d l0 sz up own dfs rnd KP E (.s [] (some pn) T F::S) (⟨none,.panic x,ty,pos,aft,none⟩::l) fr:=by
 refine ⟨_,l,[],rfl,⟨rfl,rfl,fun B f _ _ hB hf G a w hr=>?_⟩,h⟩
 have hxr:=hr.eval x
 have hev:St.ev ⟨sz,f,up B,own B,dfs,rnd⟩ x=.iface t (.agg (vs.map .v)):=by
  show Ba f x=_
  rw [agr hf (by simp [Op.operands])];exact hx
 rw [hev] at hxr
 refine ⟨fun _ _=>trivial,?_⟩
 rw [Oper.semAt_eq _ _ _ (by intro c h;cases h)]
 have he:(execOp a.eval ⟨none,.panic x,ty,pos,aft,none⟩).run P w=.halt (.panic (.iface t (.agg vs.toArray))) w:=by
  show ((do let v ←Instr.panic (a.eval x);pure (.value v)):Sem Next).run P w=_
  rw [an hxr]
  rfl
 rw [he]
 exact ⟨_,rfl,G,_,hr,Hv _ _ _,rfl,rfl,rfl,rfl,hq B (hB pn rfl) f⟩
theorem Mx {U O A B:List AObj} (hl:U.length=A.length) (h:U++O=A++B):A=U∧B=O:=so h.symm hl.symm
theorem Ch {U O A B:List AObj} {o:Nat} {x:AObj} (hl:U.length=A.length) (ho:o<A.length) (h:U++O=(A++B).set o x):A.set o x=U∧B=O:=by
 rw [Ir _ _ ho] at h
 exact so h.symm (by simpa using hl.symm)
end
section
variable {P:Program} {d:Nat} {ops:Array Oper}
/-- A call that surely panics. -/
theorem RK.callBad {sz s:Nat} {fr:Nat→AV} {up own:List AObj} {dfs:List Nat} {rnd:Option Nat} {ty:TypeId} {pos:String} {aft:Array Edge} {rest:List Oper} {K:Exit→St→Prop} {f:Operand} {g:FuncId} {xs:List Operand} {ats:Array TypeId} {first caps args:List AV} {pp:Value→List AObj→Prop}
  (hcall:∀args w,(callFunc g args).run P w=.ok (.enter g args) w) (h:ACallP P g args (up++own) (fun _ _=>False) pp)
  (hpp:∀x U O,U.length=up.length→(U++O).length=(up++own).length→pp x (U++O)→((∀x∈up,ObjLow U.length x)→∀x∈U,ObjLow U.length x)∧(∀o∈dfs,(up++own)[o]? = some .defs→(U++O)[o]? = some .defs)∧K (.panic (Jl x)) ⟨sz,fr,U,O,dfs,rnd⟩)
  (hf:Ba fr f=.fn (.func g) first caps:=by exact sL0) (ha:first++xs.map (Ba fr)++caps=args:=by exact sL0) (hs:Nat.blt s sz=true:=by rfl):
  ARunK P d ops (⟨some s,.call ⟨.value f,xs.toArray,ats⟩,ty,pos,aft,none⟩::rest) ⟨sz,fr,up,own,dfs,rnd⟩ K:=RK.callV hcall h (fun _ _ _ _ _ h=>h.elim) hpp hf ha hs
theorem AW.upEq {c:Code} {sz:Nat} {fr:Nat→AV} {up up' own:List AObj} {dfs:List Nat} {rnd:Option Nat} {K:Exit→St→Prop} (e:up=up') (h:AW P d c ⟨sz,fr,up',own,dfs,rnd⟩ K):AW P d c ⟨sz,fr,up,own,dfs,rnd⟩ K:=e ▸ h
end
end Go.SX
namespace Go.SX
def Ns:=@AW.upEq
def Fs:=@RK.callBad
def Rv:=@Y.callBad
end Go.SX
namespace Go.SX
variable [GI:GlobInv]
open Classical
section
variable {P:Program} {d:Nat} {st:St} {ty:TypeId} {pos:String} {aft:Array Edge} {gd:Option (Nat×Bool)}
/-- A variable of its own, not laid yet. -/
theorem AOp.allocP {t:TypeId} {z:Value} {k s:Nat} (hz:∀w,(zeroValue t).run P w=.ok z w) (hk:z.cells.size=k) (hs:s<st.sz):
  AOp P d ⟨some s,.alloc t,ty,pos,aft,gd⟩ st (·=st.set s (.cellp k)):=by
 subst hk
 intro G a w h Q'
 let G':Gh:={ G with tag:=fun b o=>if b=w.heap.size∧o<z.cells.size then .tail (.slot d s) else G.tag b o }
 have hfree:∀o,G.tag w.heap.size o=.free:=fun o=>Ge h.tags _ o (Ae _)
 have hne:∀b o,G.tag b o≠.free→¬(b=w.heap.size∧o<z.cells.size):=fun b o hb hc=>by rw [hc.1] at hb;exact hb (hfree o)
 have hkeep:∀b o,G.tag b o≠.free→G'.tag b o=G.tag b o:=fun b o hb=>by simp only [G'];rw [if_neg (hne b o hb)]
 have hcell:∀b o,G.tag b o≠.free→(w.alloc (.cells z.cells t)).cell? ⟨b,o,none⟩=w.cell? ⟨b,o,none⟩:=fun b o hb=>by
  refine World.cell?_alloc_old _ _ _ ?_
  show b≠w.heap.size
  rintro rfl
  exact hb (hfree o)
 have T:Turn G w G' (w.alloc (.cells z.cells t)):=by
  refine ⟨fun b o hb=>⟨by rw [hkeep b o (by rw [hb];simp)];exact hb,hcell b o (by rw [hb];simp)⟩,fun b o L hb=>by rw [hkeep b o (by rw [hb];simp)];exact hb,fun b o i hb=>by rw [hkeep b o (by rw [hb];simp)];exact hb,Ae _,fun o ho=>rfl,rfl,rfl,rfl,by simp,ko _ (fun b o hb=>.inl (by simp only [G'];rw [if_neg (by omega)])) (fun i hi=>.inl ⟨hi,rfl⟩)⟩
 have h1:StRel d G' st a (w.alloc (.cells z.cells t)):=by
  refine h.turn (U:=st.up) (O:=st.own) T ⟨fun i x hx=>T.objRel ?_ ?_ (h.heap.obj i x hx) (fun b hb=>?_),h.heap.n,h.heap.inj⟩ rfl h.defsAt ⟨fun b o hb=>?_,fun b o i hb=>?_,fun b o L hb=>?_,h.tags.globKeep T.old⟩ h.low
  ·rw [h.heap.n];exact (Aa.1 hx).1
  ·have:=(h.heap.obj i x hx).blt
   show (w.heap.push _)[G.blk i]? = _
   rw [Qg,if_neg (by omega)]
  ·have:=hb.lt
   show (w.heap.push _)[b]? = _
   rw [Qg,if_neg (by omega)]
  ·simp only [G'] at hb
   split at hb
   ·rename_i hc
    obtain ⟨rfl,hlt⟩:=hc
    exact ⟨z.cells[o],by rw [World.cell?_alloc_new];exact F3 hlt⟩
   rw [hcell b o hb]
   exact h.tags.ex b o hb
  ·simp only [G'] at hb
   split at hb
   ·cases hb
   rw [World.frozen?_alloc_old]
   ·exact h.tags.obj b o i hb
   show b≠w.heap.size
   rintro rfl
   rw [hfree] at hb;cases hb
  simp only [G'] at hb
  split at hb
  ·rename_i hc
   obtain ⟨rfl,hlt⟩:=hc
   exact World.frozen?_alloc_new _ _ _ _
  rw [World.frozen?_alloc_old]
  ·exact h.tags.tail b o L hb
  show b≠w.heap.size
  rintro rfl
  rw [hfree] at hb;cases hb
 have hrun:(execOp a.eval (⟨some s,.alloc t,ty,pos,aft,gd⟩:Oper)).run P w=.ok (.value (.pointer (some ⟨w.heap.size,0,none⟩))) (w.alloc (.cells z.cells t)):=by
  simp [execOp,Instr.alloc,hz,newVar,newRow]
 refine Eg (by intro c h;cases h) hrun ⟨G',_,h1.put (s:=s) (y:=.cellp z.cells.size) hs ?_,T.keep d,rfl,rfl,rfl,rfl⟩
 exact .cellp _ _ _ ⟨_,rfl,fun o ho=>by simp [G',ho]⟩

/-- It is laid: from now on nobody writes it. -/
theorem AOp.storeP {t:TypeId} {x:Operand} {r k:Nat} {y:AV} (hsz:∀w,(sizeOf t).run P w=.ok k w) (hf:st.fr r=.cellp k) (hx:st.ev x=y) (hk:y.cells.length=k) (hk0:0<k) (h1:y.cells.all AV.one=true):
  AOp P d ⟨none,.store t (.tmp r) x,ty,pos,aft,gd⟩ st (·=st.set r (.ro y.cells)):=by
 intro G a w h Q'
 have hone:∀c∈y.cells,c.one=true:=fun c hc=>Ay.1 h1 c hc
 obtain ⟨hc,hcc⟩:=(hx ▸ h.eval x).cells hone
 have hsl:=h.slots r
 rw [hf] at hsl
 generalize hv:a.tmps.getD r undef=v at hsl
 cases hsl with
 | cellp l k b ho =>
  obtain ⟨L,hL,ht⟩:=ho
  injection hL with hL
  subst hL
  let us:=(a.eval x).cells.toList
  have hul:us.length=k:=by simp only [us,Array.length_toList];omega
  have huone:∀u∈us,u.oneCell'=true:=fun u hu=>by
   obtain ⟨j,hj⟩:=Dp hu
   have hj':(a.eval x).cells[j]? = some u:=by rw [←Ti];exact hj
   have hlt:j<y.cells.length:=by rw [←hc];exact (Qo.1 hj').1
   exact (hcc j _ u (Ak hlt) hj').one (hone _ (D4 hlt))
  have hrun0:=run_storeCells_cells (P:=P) b 0 us 0 w (fun j hj=>by
    obtain ⟨u,hu⟩:=h.tags.ex b j (by rw [ht j (by omega)];simp)
    simp only [Nat.add_zero,Bm];rw [hu];rfl) (fun j hj=>by simpa using h.tags.tail _ _ _ (ht j (by omega))) huone
  simp only [Nat.add_zero] at hrun0
  let W:=w.setCells b 0 us
  let G':Gh:={ G with tag:=fun b' o=>if b'=b∧o<k then .fix else G.tag b' o }
  have htag:∀b' o,G.tag b' o≠.tail (.slot d r)→G'.tag b' o=G.tag b' o:=fun b' o hb=>by
   simp only [G']
   rw [if_neg]
   rintro ⟨rfl,ho⟩
   exact hb (ht o ho)
  have hout:∀b' o,¬(b'=b∧o<k)→W.cell? ⟨b',o,none⟩=w.cell? ⟨b',o,none⟩:=fun b' o hn =>
   World.cell?_setCells_out _ us 0 w ⟨b',o,none⟩ (fun hb _=>by
    simp only at hb ⊢
    exact .inr (Uk fun h''=>hn ⟨hb,by omega⟩))
  have hcell:∀b' o,G.tag b' o≠.tail (.slot d r)→W.cell? ⟨b',o,none⟩=w.cell? ⟨b',o,none⟩:=fun b' o hb=>hout b' o (fun hn=>hb (by rw [hn.1];exact ht o hn.2))
  have hnb:∀i,i<G.n→G.blk i≠b:=Qh h.heap h.tags (ht 0 hk0)
  have hheap:∀b',b'≠b→W.heap[b']? = w.heap[b']? := fun b' hb=>Ee _ _ _ _ _ hb
  have hsize:W.heap.size=w.heap.size:=Ed _ _ _ _
  have hstill:Still G w G' W:=Ma (fun b' hb'=>hheap b' (fun e=>M9 (ht 0 hk0) (e ▸ hb'))) (J8 hsize.symm) (fun b' o _=>by
   by_cases hc:b'=b∧o<k
   ·exact .inr ⟨_,by rw [hc.1];exact ht o hc.2⟩
   exact .inl (by simp only [G'];rw [if_neg hc])) (fun i hi=>.inl ⟨hi,rfl⟩)
  have hfix:∀b' o,G.tag b' o=.fix→G'.tag b' o=.fix∧W.cell? ⟨b',o,none⟩=w.cell? ⟨b',o,none⟩:=fun b' o hb=>⟨by rw [htag b' o (by rw [hb];simp)];exact hb,hcell b' o (by rw [hb];simp)⟩
  have htail:∀b' o L,L≠.slot d r→G.tag b' o=.tail L→G'.tag b' o=.tail L:=fun b' o L hL hb=>by
   rw [htag b' o (by rw [hb];intro e;injection e with e;exact hL e)];exact hb
  have hobj:∀b' o i,G.tag b' o=.obj i→G'.tag b' o=.obj i:=fun b' o i hb=>by rw [htag b' o (by rw [hb];simp)];exact hb
  have hrep:∀{l:Option Loc} {z:AV} {u:Value},l≠some (.slot d r)→Rep G w l z u→Rep G' W l z u:=fun hl hz =>
   hz.mono (G':=G') hfix (Ae _) (fun _ _=>rfl) (fun L hL b' o ht'=>htail b' o L (fun e=>hl (by rw [hL,e])) ht')
  have hkeep:Keep d G w G' W:=⟨hfix,fun b' o e s he ht'=>htail b' o _ (by rintro ⟨⟩;omega) ht',Ae _,fun _ _=>rfl,Id _ _ _ _,Gl _ _ _ _,Fd _ _ _ _,J8 hsize.symm,hstill⟩
  have hvec:∀j u,us[j]? = some u→W.cell? ⟨b,j,none⟩=some u:=fun j u hu=>by
   have hj:=(Aa.1 hu).1
   have hex:∃u',w.cell? ⟨b,j,none⟩=some u':=h.tags.ex b j (by rw [ht j (by omega)];simp)
   obtain ⟨u',hu'⟩:=hex
   have hbk:∃vs e fz,w.heap[b]? = some (.cells vs e fz):=by
    simp only [World.cell?] at hu'
    split at hu'
    ·rename_i vs e fz hb;exact ⟨vs,e,fz,hb⟩
    cases hu'
   obtain ⟨vs,e,fz,hbk⟩:=hbk
   have hlen:0+us.length≤vs.size:=by
    rw [hul,Bm]
    rcases Aw vs.size k with h'|h'
    ·exfalso
     obtain ⟨u2,hu2⟩:=h.tags.ex b vs.size (by rw [ht _ h'];simp)
     simp [World.cell?,hbk] at hu2
    exact h'
   obtain ⟨vs',b1,b2,b3⟩:=N7 b e fz us 0 w vs hbk hlen
   have b3':=b3 j
   rw [if_pos (by omega)] at b3'
   show (w.setCells b 0 us).cell? ⟨b,j,none⟩=some u
   simp only [World.cell?,b1]
   rw [b3',Nat.sub_zero]
   exact hu
  have hst:StRel d G' (st.set r (.ro y.cells)) a W:=by
   refine ⟨h.size,fun s=>?_,⟨fun i z hz=>?_,h.heap.n,h.heap.inj⟩,h.defs,h.defsAt,h.defsNodup,h.defsGe,⟨fun b' o hb=>?_,fun b' o i hb=>?_,fun b' o L hb=>?_,h.tags.globKeep hstill⟩,h.rnd,h.low,h.top⟩
   ·show Rep G' W _ (A9 r (.ro y.cells) st.fr s) _
    unfold A9
    by_cases hs:s=r
    ·subst hs
     rw [if_pos rfl,hv]
     refine .ro _ _ ⟨b,0,none⟩ (fun j=>(a.eval x).cells.getD j undef) rfl hone (fun j c hj=>?_) (fun j c hj=>?_)
     all_goals
      have hlt:j<y.cells.length:=(Aa.1 hj).1
      have hu:(a.eval x).cells[j]? = some ((a.eval x).cells[j]'(by omega)):=F3 _
      have e1:(a.eval x).cells.getD j undef=(a.eval x).cells[j]'(by omega):=by rw [Lj,hu];rfl
      rw [e1]
     ·refine ⟨by simp only [G',Bm];rw [if_pos ⟨trivial,by omega⟩],?_⟩
      rw [Bm]
      exact hvec j _ (by simp only [us];rw [Ti];exact hu)
     exact hrep (by simp) (hcc j c _ hj hu)
    rw [if_neg hs]
    exact hrep (by simp;exact fun e=>hs e) (h.slots s)
   ·have hob:=h.heap.obj i z hz
    have hi:i<G.n:=by rw [h.heap.n];exact (Aa.1 hz).1
    have hb:=hheap (G.blk i) (hnb i hi)
    cases z with
    | cells t cs =>
     obtain ⟨vs,a1,a2,a3,a4⟩:=hob
     exact ⟨vs,hb.trans a1,a2,fun j y u p q=>hrep (by simp) (a3 j y u p q),fun j hj=>hobj _ _ _ (a4 j hj)⟩
    | loop sta pd fr sz ps asg bd df =>
     obtain ⟨fn,tmps,a1,a2,a3,a4⟩:=hob
     exact ⟨fn,tmps,hb.trans a1,a2,fun s=>hrep (by simp) (a3 s),a4⟩
    | defs=>exact hb.trans hob
    | dead=>exact hb.trans hob
    | bld t e bs=>exact BldRel.turn hob rfl (fun b' o ho=>hobj b' o i ho) hb (fun b' ha=>hheap b' (fun e=>by
      have:=ha.tag h.tags (o:=0) (by rw [e,ht 0 hk0];simp)
      rw [e,ht 0 hk0] at this;cases this))
    | gone =>
     obtain ⟨vs,t,fz,a1,a2⟩:=hob
     exact ⟨vs,t,fz,hb.trans a1,fun j hj=>(hfix _ _ (a2 j hj)).1⟩
   ·by_cases hc:b'=b∧o<k
    ·obtain ⟨rfl,ho⟩:=hc
     exact ⟨us[o]'(by omega),hvec o _ (Ak _)⟩
    rw [hout b' o hc]
    simp only [G',if_neg hc] at hb
    exact h.tags.ex b' o hb
   ·rw [World.frozen?_setCells]
    simp only [G'] at hb
    split at hb
    ·cases hb
    exact h.tags.obj b' o i hb
   rw [World.frozen?_setCells]
   simp only [G'] at hb
   split at hb
   ·cases hb
   exact h.tags.tail b' o L hb
  have hrun:(execOp a.eval (⟨none,.store t (.tmp r) x,ty,pos,aft,gd⟩:Oper)).run P w=.ok .skip W:=
   Ie hsz (show a.eval (.tmp r)=_ from hv) (by omega) hrun0
  exact Iu (by intro c h;cases h) hrun ⟨G',_,hst,hkeep,rfl,rfl,rfl,rfl⟩
end
section
variable {P:Program} {d:Nat} {sz:Nat} {dfs:List Nat} {rnd:Option Nat} {l0:List Oper} {up own:(Nat→Bool)→List AObj} {KP:List PanicEntry→St→Prop} {E:List Oper→(Nat→AV)→Prop} {S:List SegY} {l:List Oper} {fr:Nat→AV} {ty:TypeId} {pos:String} {aft:Array Edge} {s:Nat} {T F:List Nat}
theorem Y.allocP {t:TypeId} {z:Value} {k:Nat} (hz:∀w,(zeroValue t).run P w=.ok z w) (h:ChainY P d l0 sz up own dfs rnd KP E S l (A9 s (.cellp k) fr)) (hk:z.cells.size=k:=by rfl) (hs:Nat.blt s sz=true:=by rfl):
  ChainY P d l0 sz up own dfs rnd KP E (.s [s] none T F::S) (⟨some s,.alloc t,ty,pos,aft,none⟩::l) fr:=by
 refine ⟨_,l,[(s,.cellp k)],rfl,⟨rfl,rfl,fun B f _ _ _ hf=>.of ?_⟩,h⟩
 exact AOp.allocP (st:=⟨sz,f,up B,own B,dfs,rnd⟩) hz hk (by simpa using hs)
theorem Y.storeP {t:TypeId} {x:Operand} {r k:Nat} {y:AV} {ys:List AV} (hsz:∀w,(Go.sizeOf t).run P w=.ok k w) (h:ChainY P d l0 sz up own dfs rnd KP E S l (A9 r (.ro ys) fr))
  (hf:fr r=.cellp k:=by exact sL0) (hx:Ba fr x=y:=by exact sL0) (hc:y.cells=ys:=by exact sL0)
  (hk:ys.length=k:=by rfl) (hk0:0<k:=by decide) (h1:ys.all AV.one=true:=by exact sL2):
  ChainY P d l0 sz up own dfs rnd KP E (.s [r] none T F::S) (⟨none,.store t (.tmp r) x,ty,pos,aft,none⟩::l) fr:=by
 subst hc
 refine ⟨_,l,[(r,.ro y.cells)],rfl,⟨rfl,rfl,fun B f _ _ _ hfr=>.of ?_⟩,h⟩
 have e:f r=fr r:=hfr r (by simp [lk,aa,Op.operands])
 have ex:Ba f x=y:=by rw [agr hfr (by simp [Op.operands])];exact hx
 exact AOp.storeP (st:=⟨sz,f,up B,own B,dfs,rnd⟩) hsz (e.trans hf) ex hk hk0 h1
end
end Go.SX
namespace Go.SX
def X2:=@Y.allocP
def Sy:=@Y.storeP
end Go.SX
