/- On the way (part 10). -/
import Derived.Lib.ParseIntBCases
import Derived.Test.YtfngkblpcigciaaGreatDoorQueryRunsCardSaidPart9
set_option linter.all false
namespace Go.SX.Nb
open Go Go.SX Go.Proofs Go.RowKit Go.Sort
variable [ErrAt]
set_option maxRecDepth 4000
theorem o4:Builder.Extra Tryz.prog Tryz.ren156:={ sizeBuilder:=by kernel_rfl,liesBuilder:=by kernel_rfl,t5:=Tryz.underlying5,a5:=Tryz.isAgg5,z5:=Tryz.sizeOf5,v5:=Tryz.zeroValue5,infoByte:=by kernel_rfl,cellsByte:=by kernel_rfl,sizeByte:=by kernel_rfl,neB5:=by decide }
theorem c43 (l:List Str) (sep:Str) (hn:l.length≤140737488355328) (hl:(Lib.join l sep).length≤140737488355328) (Hp:List AObj):AFun Tryz.prog 43 [J4 l,Ac sep] Hp (Ac (Lib.join l sep)):=by
 have e:J4 l=.slice false 1 ((l.map sv).map .v):=by rw [Gj];rfl
 rw [e]
 refine AFun.libSl (xs:=[sv sep]) (v:=sv (Lib.join l sep)) (fun G w=>.v _ _) (fun w u hg hs=>?_)
 rcases hs with ⟨rfl,he⟩|⟨ad,c,rfl,hc,hsp,hcell⟩
 ·have:l=[]:=by simpa using he
  subst this
  refine (Any.strings_Join_none Tryz.lays156 o4 none 0 ⟨sep.toArray⟩ w).mono ?_
  rintro e w' ⟨rfl,rfl⟩
  exact eh
 rw [B6] at hc
 match l,hn,hl,hc,hsp,hcell with
 | [],_,_,_,_,_ =>
  refine (Any.strings_Join_none Tryz.lays156 o4 (some ad) c ⟨sep.toArray⟩ w).mono ?_
  rintro e w' ⟨rfl,rfl⟩
  exact eh
 | [x],_,_,hc,hsp,hcell =>
  obtain ⟨bk,o,spot⟩:=ad
  have hs0:spot=none:=hsp (by simp)
  subst hs0
  refine (Any.strings_Join_one Tryz.lays156 o4 bk o c ⟨x.toArray⟩ ⟨sep.toArray⟩ w (by have:=hcell 0 (sv x) rfl;simpa using this)).mono ?_
  rintro e w' ⟨rfl,rfl⟩
  exact ⟨by rw [Lib.join_one],Below.refl _ _⟩
 | x::y::r,hn,hl,hc,hsp,hcell =>
  obtain ⟨bk,o,spot⟩:=ad
  have hs0:spot=none:=hsp (by simp)
  subst hs0
  have h0:=hcell 0 (sv x) rfl
  have hb:bk<w.heap.size:=World.block_lt_of_cell? _ _ h0
  have hd:((x::y::r).map fun z=>(⟨z.toArray⟩:ByteArray)).map (·.data.toList)=x::y::r:=by
   rw [Gj]
   exact List.map_id'' (fun z=>by simp) _
  have:=Any.strings_Join_many Tryz.lays156 o4 bk o c ((x::y::r).map fun z=>(⟨z.toArray⟩:ByteArray)) ⟨sep.toArray⟩ w (fun j z hz=>by
   rw [C8,Dw] at hz
   obtain ⟨z',hz',rfl⟩:=hz
   exact hcell j _ (by rw [C8,hz'];rfl)) hb (by simp) (by simpa using hn) (by simpa using hc) (by rw [hd];simpa using hl)
  rw [hd,B6] at this
  rw [B6]
  refine this.mono ?_
  rintro e w' ⟨rfl,hb'⟩
  exact ⟨by simp,hb'⟩
end Go.SX.Nb
namespace Go.SX.Nb
open Go Go.SX Go.Proofs
variable [ErrAt]
set_option maxRecDepth 4000
/-! What is printed is parsed: queries. -/
structure QOk (q:Qry):Prop where
 all:q.all=((q.cols.length:Int)==0)
 len:q.cols.length≤12
 lo : -1≤q.lim
 hi:q.lim≤100000
 names:∀s∈q.cols,Fj s=true
 tree:Fa q=true→Cz q.whr=true
theorem tg {q:Qry} (h:Dq q=true):QOk q:=by
 unfold Dq at h
 split at h
 ·cases h
 rename_i h1
 simp only [C7,not_or,R5,decide_eq_false_iff_not,bne_eq_false_iff_eq] at h1
 obtain ⟨⟨⟨a,b⟩,c⟩,d⟩:=h1
 simp only [Al,C7,Ju,B1] at h
 refine ⟨a,by omega,by omega,by omega,h.1,fun ha=>?_⟩
 rcases h.2 with h2|h2
 ·rw [h2] at ha;cases ha
 exact h2
theorem th (a:Str) (r:List Str):Yy (a::r)=a++Sc r:=rfl
def o5 (q:Qry):Str:=if q.all then [42] else Yy q.cols
def zt (q:Qry):Str:=if Fa q then AG9++Ay q.whr else []
def ADc (q:Qry):Str:=if q.lim != -1 then AGa++Lib.itoa q.lim else []
def a1 (q:Qry):Str:=AG8++o5 q
def a2 (q:Qry):Str:=a1 q++zt q
def a3 (q:Qry):Str:=a2 q++ADc q
theorem Qw (q:Qry):Pq q=a3 q++[59]:=rfl
theorem Tl:∀r:List Str,Lib.joinTail [44,32] r=Sc r
 | []=>rfl
 | a::r=>by
  show ([44,32]++a)++Lib.joinTail [44,32] r=_
  rw [Tl r]
  rfl
theorem Zm (c:List Str):Lib.join c [44,32]=Yy c:=by
 cases c with
 | nil=>rfl
 | cons a r=>rw [Lib.join_cons,Tl,th]
theorem Xc:∀c:List Str,(∀s∈c,s.length≤1048576)→(Sc c).length≤c.length*1048578
 | [],_=>Av _
 | a::r,h=>by
  have h1:=Xc r (fun s hs=>h s (by simp [hs]))
  have h2:=h a (by simp)
  show (([44,32]++a)++Sc r).length≤(r.length+1)*1048578
  simp only [Aq,Aw,Bb]
  omega
theorem j1 {c:List Str} (h:∀s∈c,s.length≤1048576):(Yy c).length≤c.length*1048578:=by
 have:=Xc c h
 unfold Yy
 rw [F5]
 omega
/-- query.Print: the text and the error. -/
def Tm (q:Qry):Str×Int:=if Dq q=true then (if decide ((4000:Int)<((Pq q).length:Int))=true then ([],3) else (Pq q,0)) else ([],1)
theorem ADd {q:Qry} (h:Dq q=false):Tm q=([],1):=if_neg (by rw [h];simp)
theorem o6 {q:Qry} (h:Dq q=true) (h2:decide ((4000:Int)<((Pq q).length:Int))=true):Tm q=([],3):=by unfold Tm;rw [if_pos h,if_pos h2]
theorem ADe {q:Qry} (h:Dq q=true) (h2:decide ((4000:Int)<((Pq q).length:Int))=false):Tm q=(Pq q,0):=by unfold Tm;rw [if_pos h,if_neg (by rw [h2];simp)]
theorem zu {q:Qry} (ha:Fa q=true) (h:4000<(Ay q.whr).length):decide ((4000:Int)<((Pq q).length:Int))=true:=by
 rw [decide_eq_true_eq,Qw]
 unfold a3 a2 zt
 rw [if_pos ha]
 simp only [Aq]
 omega
theorem zv {q:Qry} (hq:QOk q) (h:∀s∈q.cols,s.length≤1048576):(a1 q).length≤13000000:=by
 have h1:=j1 h
 have h2:=hq.len
 unfold a1 o5 AG8 Qp
 split<;>simp only [Aq,Aw,Bb]<;>omega
theorem zw {q:Qry} (hq:QOk q) (hg:Dk Hy q.whr=true) (h:∀s∈q.cols,s.length≤1048576):(a2 q).length≤13200000:=by
 have h1:=zv hq h
 unfold a2 zt AG9 Kx
 split
 ·rename_i ha
  have:=Nj (hq.tree ha) hg
  simp only [Aq,Aw,Bb]
  omega
 simp only [Aq,Bb];omega
theorem o7 {q:Qry} (hq:QOk q):(Lib.itoa q.lim).length≤21:=Lib.itoa_length_le _ (by have:=hq.lo;omega) (by have:=hq.hi;omega)
theorem AH1 {q:Qry} (hq:QOk q) (hg:Dk Hy q.whr=true) (h:∀s∈q.cols,s.length≤1048576):(a3 q).length≤13300000:=by
 have h1:=zw hq hg h
 have h2:=o7 hq
 unfold a3 ADc AGa K8
 split<;>simp only [Aq,Aw,Bb]<;>omega
theorem c16 (q:Qry) (h:QW q) (Hp:List AObj):AFun Tryz.prog 16 [M6 q] Hp (.tup [Ac (Tm q).1,A5 (Tm q).2]):=by
 refine Ah [.tmp 2,.tmp 3] [0] Tryz.func16 Tryz.ntmps16 (fun d=>?_)
 refine Z13 ?_;refine A2 [1] ?_;refine Z23 ?_;refine A7 Tryz.call25 (c25 q h _) ?_;refine A4 ?_;refine A2 [1,9] ?_
 refine A3 (fun ht9=>?_) (fun ht9=>?_)
 ·have e:=ADd (q:=q) (by simpa using ht9)
  exact AI5
 have hr:Dq q=true:=by simpa using ht9
 have hq:=tg hr
 have hb1:=zv hq h.names
 have hb2:=zw hq h.rng h.names
 have hb3:=AH1 hq h.rng h.names
 have hbl:=o7 hq
 refine Z93 ?_;refine A2 [1,4] ?_
 refine Ht ⟨47,A9 1 (.ro (qoC false q)) (A9 4 (Ac (a1 q)) (fun _=>.any)),Hp,[],[],none⟩ ?_ ?_
 ·refine Z13 ?_;refine A2 [1,4,12] ?_
  refine A3 (fun ht12=>?_) (fun ht12=>?_)
  ·have ha:q.all=false:=by simpa using ht12
   have ej:([115,101,108,101,99,116,32]:Str)++Lib.join q.cols [44,32]=a1 q:=by
    rw [Zm]
    unfold a1 o5
    rw [ha]
    rfl
   have hjl:(Lib.join q.cols [44,32]).length≤13000000:=by
    rw [Zm]
    have:=j1 h.names
    have:=hq.len
    omega
   refine Z28 ?_
   refine A7 Tryz.call43 (c43 q.cols [44,32] (by have:=h.len;omega) (by omega) _) ?_
   refine Z0 ?_;refine A2 [1,4] ?_;refine K.thJ ?_
   try simp only [Dz,Dr] at ej
   exact Bc (by rw [ej]<;>rfl)
  have ha:q.all=true:=by simpa using ht12
  have ej:([115,101,108,101,99,116,32,42]:Str)=a1 q:=by
   unfold a1 o5
   rw [ha]
   rfl
  refine Dg [1,4] ?_;refine vw ?_
  try simp only [Dz,Dr] at ej
  exact Bc (by rw [ej]<;>rfl)
 refine Ht ⟨47,A9 1 (.ro (qoC false q)) (A9 4 (Ac (a2 q)) (fun _=>.any)),Hp,[],[],none⟩ ?_ ?_
 ·refine Z2 ?_;refine A7 Tryz.call30 (c30 q h _) ?_;refine A2 [1,4,18] ?_
  refine A3 (fun ht18=>?_) (fun ht18=>?_)
  ·have hrw:=hq.tree ht18
   have hpl:=Nj hrw h.rng
   refine Z1 ?_;refine A7 Tryz.call44 (c44 61 q.whr h.ok (by decide) h.rng _) ?_;refine Z86 ?_;refine A2 [1,4,5,6] ?_;refine Z8 ?_;refine A2 [1,4,5,6,26] ?_
   refine A3 (fun ht26=>?_) (fun ht26=>?_)
   ·have hsm:Mc q.whr=([],3)∧4000<(Ay q.whr).length:=by
     rcases nc hrw with h1|h1
     ·exact h1
     rw [h1.1] at ht26;cases ht26
    have e:=o6 hr (zu ht18 hsm.2)
    rw [hsm.1]
    refine Z13 ?_;refine Z54 ?_;refine Ex ?_;exact AFe
   have hsm:Mc q.whr=(Ay q.whr,0):=by
    rcases nc hrw with h1|h1
    ·rw [h1.1] at ht26;cases ht26
    exact h1.1
   rw [hsm]
   have ej2:a1 q++(([32,119,104,101,114,101,32]:Str)++Ay q.whr)=a2 q:=by
    unfold a2 zt
    rw [ht18]
    rfl
   refine Z3 ?_;refine Z28 ?_;refine Z11 ?_;refine A2 [1,4] ?_;refine K.thJ ?_
   try simp only [Dz,Dr] at ej2
   exact Bc (by rw [ej2]<;>rfl)
  have ej2:a1 q=a2 q:=by
   unfold a2 zt
   rw [ht18,if_neg (by simp),Fz]
  refine Dg [1,4] ?_;refine vw ?_
  try simp only [Dz,Dr] at ej2
  exact Bc (by rw [ej2]<;>rfl)
 refine Ht ⟨47,A9 4 (Ac (a3 q)) (fun _=>.any),Hp,[],[],none⟩ ?_ ?_
 ·refine Z13 ?_;refine A2 [1,4,34] ?_
  refine A3 (fun ht34=>?_) (fun ht34=>?_)
  ·have ej3:a2 q++(([32,108,105,109,105,116,32]:Str)++Lib.itoa q.lim)=a3 q:=by
    unfold a3 ADc
    rw [ht34]
    rfl
   refine Z22 ?_
   refine A7 Tryz.call45 (c45 q.lim (by have:=hq.lo;omega) (by have:=hq.hi;omega) _) ?_
   refine Z11 ?_;refine A2 [4] ?_;refine K.thJ ?_
   try simp only [Dz,Dr] at ej3
   exact Bc (by rw [ej3]<;>rfl)
  have ej3:a2 q=a3 q:=by
   unfold a3 ADc
   rw [ht34,if_neg (by simp),Fz]
  refine Dg [4] ?_;refine vw ?_
  try simp only [Dz,Dr] at ej3
  exact Bc (by rw [ej3]<;>rfl)
 refine Z32 ?_;refine A2 [4] ?_;refine Z13 ?_;refine A2 [4,45] ?_
 refine A3 (fun ht45=>?_) (fun ht45=>?_)
 ·rw [←Qw] at ht45
  have e:=o6 hr ht45
  exact AI5
 rw [←Qw] at ht45
 have e:=ADe hr ht45
 rw [←Qw]
 refine Oh ?_;refine Z65 ?_;exact AFe

def qaT:Str:=[115,101,108,101,99,116,32,97,44,116,32,119,104,101,114,101,32,97,62,51,32,108,105,109,105,116,32,50,59]
def qaP:Str:=[115,101,108,101,99,116,32,97,44,32,116,32,119,104,101,114,101,32,97,32,62,32,51,32,108,105,109,105,116,32,50,59]
def qaQ:Qry:=⟨false,[[97],[116]],Hn [62] (F8 [97]) (K5 ⟨1,3,[]⟩),2⟩
theorem zx:Ky qaT=(qaQ,0,0):=by kernel_rfl
theorem ADf:Tm qaQ=(qaP,0):=by kernel_rfl
theorem zy:Cz qaQ.whr=true:=by kernel_rfl
theorem AKx:QW qaQ:=by
 obtain ⟨h1,h2⟩:=ru zy
 exact ⟨Hz (by decide) h1,by omega,by kernel_rfl,by decide,by decide⟩
theorem AKy (Hp:List AObj):AFun Tryz.prog 15 [Ac qaT] Hp (.tup [M6 qaQ,.agg [A5 0,A5 0]]):=by
 have:=c6 qaT (by decide) Hp
 rw [zx] at this
 exact this
theorem AKz (Hp:List AObj):AFun Tryz.prog 16 [M6 qaQ] Hp (.tup [Ac qaP,A5 0]):=by
 have:=c16 qaQ AKx Hp
 rw [ADf] at this
 exact this
theorem AL0 {q:Qry} (h:Tk q=false) (hg:Dk Hy q.whr=true):QW q:=by
 unfold Tk at h
 split at h
 ·cases h
 rename_i h1
 simp only [C7,decide_eq_true_eq,not_or,R5] at h1
 have hs:=ABi h1.2
 refine ⟨hs.ok,by have:=hs.size;omega,hg,by omega,fun s hs=>?_⟩
 rw [I7] at h
 have:¬((100:Int)<(s.length:Int)):=fun e=>h (Gw.2 ⟨s,hs,by simpa using e⟩)
 omega
theorem c5 (Hp:List AObj):AFun Tryz.prog 6 [] Hp (At true):=by
 refine Ah [.tmp 0] [] Tryz.func6 Tryz.ntmps6 (fun d=>?_)
 refine Z2 ?_;refine A2 [] ?_;refine Eg ?_;refine A7 Tryz.call15 (AKy _) ?_;refine AEi ?_;refine vp ?_;refine A2 [1,2] ?_;refine Z2 ?_;refine A7 Tryz.call16 (AKz _) ?_;refine Z86 ?_;refine Tx ?_;refine Z20 ?_;refine Z6 ?_;refine Z46 ?_;refine Z0 ?_;refine A2 [0] ?_;exact AF3

/-- What a card says of rows. -/
structure RW (l:List Row):Prop where
 len:l.length≤1048576
 each:∀x∈l,x.l.length≤1048576∧∀v∈x.l, -9223372036854775808≤v.n∧v.n≤9223372036854775807
def Qx (l:List Row):Bool:=decide ((60:Int)<(l.length:Int)) || l.any fun x=>Nl x.l
theorem Zn {α:Type} {a b:List α} (h:a.length=b.length) (hp:∀(j:Nat) (y:α),j<a.length→a[j]? = some y→b[j]? = some y):a=b:=P0 h fun j y hj hy=>hp j y (by omega) hy
theorem c9 (l:List Row) (Hp:List AObj):AFun Tryz.prog 9 [Hi l] Hp (At (Qx l)):=by
 refine Ah [.tmp 2] [0] Tryz.func9 Tryz.ntmps9 (fun d=>?_)
 refine Z58 ?_;refine Z32 ?_;refine A2 [0,6] ?_
 refine A3 (fun ht6=>?_) (fun ht6=>?_)
 ·rw [B6] at ht6
  have hm:Qx l=true:=by unfold Qx;rw [ht6];rfl
  exact AIp
 rw [B6] at ht6
 have hl50:l.length≤60:=by simp at ht6;omega
 refine Kq ?_;refine Kr ?_
 refine Bh (α:=Nat) (fun x=>⟨19,A9 0 (Hi l) (A9 3 (A5 (x:Nat)) (fun _=>.any)),Hp,[],[],none⟩) (fun x=>x≤l.length∧∀(j:Nat) (v:Row),j<x→l[j]? = some v→Nl v.l=false) (fun x=>l.length-x) (0) ⟨Av _,fun j v h=>by omega⟩ (Bc (by simp)) rfl (fun x hx=>?_)
 refine Z48 ?_;refine A2 [0,3,10] ?_
 refine A3 (fun ht10=>?_) (fun ht10=>?_)
 ·have hlt:x<l.length:=by simpa using ht10
  refine Xo ?_
  refine A4 (h:=Ag (x) (Fi l[x]) (fun _=>B7 hlt)) (hr:=?_)
  refine Z0 ?_;refine A7 Tryz.call18 (c18 l[x].l _) ?_;refine A2 [0,3,18] ?_
  refine A3 (fun ht18=>?_) (fun ht18=>?_)
  ·have hm:Qx l=true:=by unfold Qx;rw [C7];exact .inr (Gw.2 ⟨l[x],Br hlt,ht18⟩)
   refine Z24 ?_;exact Z67
  refine Z18 ?_;refine Z43 ?_
  refine A4 (h:=Q.add64 (h1:=fun _=>by omega) (h2:=fun _=>by omega)) (hr:=?_)
  refine A4 ?_;refine Kr ?_;refine B5 (x+1) ⟨hlt,Dn hlt hx.2 ht18⟩ (by omega) ?_;exact Bx (by simp)
 have hxe:l.length≤x:=by simpa using ht10
 have hm:Qx l=false:=by
  unfold Qx
  rw [ht6,Dd,Li]
  intro v hv
  obtain ⟨j,hj⟩:=Cg hv
  have:=hx.2 j v (by have:=(Ad.1 hj).1;omega) hj
  rw [this]
  simp
 exact AIr

theorem c36 (a b:List Val) (ha:a.length≤1048576) (Hp:List AObj):AFun Tryz.prog 36 [Fh a,Fh b] Hp (At (decide (a=b))):=by
 refine Ah [.tmp 4] [0,1] Tryz.func36 Tryz.ntmps36 (fun d=>?_)
 refine Z64 ?_;refine Lu ?_;refine A2 [0,1,10] ?_
 refine A3 (fun ht10=>?_) (fun ht10=>?_)
 ·have hm:decide (a=b)=false:=by rw [decide_eq_false];rintro rfl;simp at ht10
  exact bh
 have hlen:a.length=b.length:=by have:=ht10;simp at this;omega
 refine Kq ?_;refine Vg ?_
 refine Bh (α:=Nat) (fun x=>⟨26,A9 0 (Fh a) (A9 1 (Fh b) (A9 5 (A5 (x:Nat)) (fun _=>.any))),Hp,[],[],none⟩) (fun x=>x≤a.length∧∀(j:Nat) (y:Val),j<x→a[j]? = some y→b[j]? = some y) (fun x=>a.length-x) (0) ⟨Av _,fun j y h=>by omega⟩ (Bc (by simp)) rfl (fun x hx=>?_)
 refine Z48 ?_;refine A2 [0,1,5,14] ?_
 refine A3 (fun ht14=>?_) (fun ht14=>?_)
 ·have hlt:x<a.length:=by simpa using ht14
  have hlb:x<b.length:=by omega
  refine Z53 ?_;refine W.draw [0,0,3,7,0,0,48,112,255] 8 Aj (by kernel_rfl) ?_;refine Z10 ?_
  refine An (h:=Ag (x) (B8 a[x]) (fun _=>B7 hlt)) (hr:=?_)
  refine Z34 ?_
  refine An (h:=Ag (x) (B8 b[x]) (fun _=>B7 hlb)) (hr:=?_)
  refine Tr ?_
  refine A4 (h:=Q.neqAgg Rn (Gn a[x].kind a[x].n b[x].kind b[x].n a[x].s b[x].s)) (hr:=?_)
  refine A2 [0,1,5,25] ?_
  refine A3 (fun ht25=>?_) (fun ht25=>?_)
  ·rw [me] at ht25
   have hm:decide (a=b)=false:=by
    rw [decide_eq_false]
    rintro rfl
    simp at ht25
   exact vk
  rw [me] at ht25
  have heq:a[x]=b[x]:=by simpa using ht25
  refine AAq ?_
  exact B5 (x+1) ⟨hlt,K3 (p:=fun j y=>b[j]? = some y) hlt hx.2 (by rw [Aa hlb,heq])⟩ (by omega) (Bx rfl)
 have hxe:a.length≤x:=by simpa using ht14
 have hm:decide (a=b)=true:=decide_eq_true (Zn hlen fun j y hj hy=>hx.2 j y (by omega) hy)
 refine Z52 ?_;exact vu

theorem c14 (a b:List Row) (ha:a.length≤1048576) (he:∀x∈a,x.l.length≤1048576) (Hp:List AObj):AFun Tryz.prog 14 [Hi a,Hi b] Hp (At (decide (a=b))):=by
 refine Ah [.tmp 4] [0,1] Tryz.func14 Tryz.ntmps14 (fun d=>?_)
 refine Z64 ?_;refine Lu ?_;refine A2 [0,1,10] ?_
 refine A3 (fun ht10=>?_) (fun ht10=>?_)
 ·have hm:decide (a=b)=false:=by rw [decide_eq_false];rintro rfl;simp at ht10
  exact bh
 have hlen:a.length=b.length:=by have:=ht10;simp at this;omega
 refine Kq ?_;refine Vg ?_
 refine Bh (α:=Nat) (fun x=>⟨42,A9 0 (Hi a) (A9 1 (Hi b) (A9 5 (A5 (x:Nat)) (fun _=>.any))),Hp,[],[],none⟩) (fun x=>x≤a.length∧∀(j:Nat) (y:Row),j<x→a[j]? = some y→b[j]? = some y) (fun x=>a.length-x) (0) ⟨Av _,fun j y h=>by omega⟩ (Bc (by simp)) rfl (fun x hx=>?_)
 refine Z48 ?_;refine A2 [0,1,5,14] ?_
 refine A3 (fun ht14=>?_) (fun ht14=>?_)
 ·have hlt:x<a.length:=by simpa using ht14
  have hlb:x<b.length:=by omega
  refine Z53 ?_;refine W.draw [0,0,3,7,15,0,0,96,224,480,1023,2047,4095,4095,16383,32767,65535,4095,4095,397311,921599,1970175,4194303,8388607,16777215] 22 Aj (by kernel_rfl) ?_;refine Z10 ?_
  refine An (h:=Ag (x) (Fi a[x]) (fun _=>B7 hlt)) (hr:=?_)
  refine Z92 ?_
  refine An (h:=Ag (x) (Fi b[x]) (fun _=>B7 hlb)) (hr:=?_)
  refine Z92 ?_;refine Z72 ?_
  refine Ga (h:=Ag (x) (Fi a[x]) (fun _=>B7 hlt)) (hr:=?_)
  refine Z72 ?_;refine Z72 ?_
  refine Ga (h:=Ag (x) (Fi b[x]) (fun _=>B7 hlb)) (hr:=?_)
  refine Z72 ?_;refine Ee ?_;refine Bw Tryz.call36 (fun hB=>c36 a[x].l b[x].l (he _ (Br hlt)) _) ?_;refine Z95 ?_;refine A2 [0,1,5,41] ?_
  refine A3 (fun ht41=>?_) (fun ht41=>?_)
  ·rw [mf] at ht41
   have hm:decide (a=b)=false:=by
    rw [decide_eq_false]
    rintro rfl
    simp at ht41
   exact vk
  rw [mf] at ht41
  have heq:a[x]=b[x]:=by simpa using ht41
  refine AAq ?_
  exact B5 (x+1) ⟨hlt,K3 (p:=fun j y=>b[j]? = some y) hlt hx.2 (by rw [Aa hlb,heq])⟩ (by omega) (Bx rfl)
 have hxe:a.length≤x:=by simpa using ht14
 have hm:decide (a=b)=true:=decide_eq_true (Zn hlen fun j y hj hy=>hx.2 j y (by omega) hy)
 refine Z52 ?_;exact vu

theorem c83 (n:Nat) (x:Expr) (hok:okE n x) (hn:n≤1048576) (hrg:Dk Hy x=true) (c:List Col) (hc:OkCols c) (l:List Val) (hll:l.length≤1048576) (hlr:∀v∈l, -9223372036854775808≤v.n∧v.n≤9223372036854775807) (Hp:List AObj):AFun Tryz.prog 83 [Ae x,Ce c,Fh l] Hp (.tup [At (Yz (Fx x c l)),A5 (Tc (Fx x c l))]):=by
 refine Ah [.tmp 6,.tmp 7] [0,1,2] Tryz.func83 Tryz.ntmps83 (fun d=>?_)
 refine Z13 ?_;refine A2 [1,2,3] ?_;refine Z13 ?_;refine A7 Tryz.call121 (AN7 n x hok hn hrg c hc l hll hlr _) ?_;refine Xn ?_;refine A2 [8,9] ?_;refine Z32 ?_;refine Z78 ?_;refine Z90 ?_;refine A2 [8,9,28] ?_
 refine A3 (fun ht28=>?_) (fun ht28=>?_)
 ·have hm:Tc (Fx x c l)=10:=if_pos ht28
  refine Z43 ?_;refine A2 [8,9] ?_;refine Ef ?_;refine AIv ?_;refine Ga ?_;refine H.call Tryz.call122 (fun hB=>eu true _) ?_
  refine Ga (h:=Lo Rn (fun w=>Gn (Fx x c l).1.kind (Fx x c l).1.n 3 1 (Fx x c l).1.s [] w)) (hr:=?_)
  refine Z34 ?_;refine Ee ?_;refine A4 ?_;refine A2 [6,7] ?_;exact AHs
 have hm:Tc (Fx x c l)=(Fx x c l).2:=if_neg (by rw [ht28];simp)
 refine Z3 ?_;refine AIv ?_;refine Ga ?_;refine H.call Tryz.call122 (fun hB=>eu true _) ?_
 refine Ga (h:=Lo Rn (fun w=>Gn (Fx x c l).1.kind (Fx x c l).1.n 3 1 (Fx x c l).1.s [] w)) (hr:=?_)
 refine Z34 ?_;refine Ee ?_;refine A4 ?_;refine A2 [6,7] ?_;exact AHs

theorem c48 (q:Qry) (h:QW q) (c:List Col) (hc:OkCols c) (l:List Val) (hll:l.length≤1048576) (hlr:∀v∈l, -9223372036854775808≤v.n∧v.n≤9223372036854775807) (Hp:List AObj):AFun Tryz.prog 48 [M6 q,Ce c,Fh l] Hp (.tup [At (C1 q c l).1,A5 (C1 q c l).2]):=by
 refine Ah [.tmp 6,.tmp 7] [0,1,2] Tryz.func48 Tryz.ntmps48 (fun d=>?_)
 refine Z13 ?_;refine A2 [1,2,3] ?_;refine Z8 ?_;refine A7 Tryz.call82 (c82 c hc l hll _) ?_;refine A4 ?_;refine A2 [1,2,3,11] ?_
 refine A3 (fun ht11=>?_) (fun ht11=>?_)
 ·have hm:C1 q c l=(false,1):=by unfold C1;rw [if_pos ht11]
  refine Z1 ?_;exact AI4
 refine Kq ?_;refine A7 Tryz.call30 (c30 q h _) ?_;refine A4 ?_;refine A2 [1,2,3,14] ?_
 refine A3 (fun ht14=>?_) (fun ht14=>?_)
 ·have hm:C1 q c l=(true,0):=by unfold C1;rw [if_neg (by rw [ht11];simp),if_pos ht14]
  refine Z1 ?_;exact AI4
 have hm:C1 q c l=(Yz (Fx q.whr c l),Tc (Fx q.whr c l)):=by unfold C1;rw [if_neg (by rw [ht11];simp),if_neg (by rw [ht14];simp)]
 refine Tv ?_;refine A7 Tryz.call83 (c83 61 q.whr h.ok (by decide) h.rng c hc l hll hlr _) ?_;refine Z61 ?_;refine A2 [6,7] ?_;refine Eu ?_;exact AJp

def ADg (c:List Col) (s:Str):Bool:=decide (Co s c<0)
def Xd (p:Str→Bool) (ks:List Str):Int:=if ks.any p then (ks.findIdx p:Int) else -1
theorem zz {p:Str→Bool} {ks:List Str} {i:Nat} (h:i<ks.length) (hn:p ks[i]=true) (hp:∀(j:Nat) (y:Str),j<i→ks[j]? = some y→¬p y=true):(i:Int)=Xd p ks:=by
 unfold Xd
 rw [if_pos (Gw.2 ⟨_,Br h,hn⟩)]
 congr 1
 refine (List.findIdx_eq h |>.2 ⟨hn,fun j hj=>?_⟩).symm
 have:=hp j (ks[j]'(by omega)) hj (Aa (by omega))
 simpa using this
theorem lw {p:Str→Bool} {ks:List Str} (hp:∀(j:Nat) (y:Str),ks[j]? = some y→¬p y=true):(-1:Int)=Xd p ks:=by
 unfold Xd
 rw [if_neg]
 intro h
 obtain ⟨y,hy,hn⟩:=Gw.1 h
 obtain ⟨j,hj⟩:=Cg hy
 exact hp j y hj hn
theorem tj (p:Str→Bool) (ks:List Str):decide (0≤Xd p ks)=ks.any p:=by
 unfold Xd
 cases ks.any p<;>simp
theorem c28 (c:List Col) (hc:OkCols c) (s:Str) (Hp:List AObj):AFun Tryz.prog 28 [Ac s,.ro [Ce c]] Hp (At (ADg c s)):=by
 refine Ah [.tmp 3] [0,1] Tryz.func28 Tryz.ntmps28 (fun d=>?_)
 refine Z64 ?_;refine Z1 ?_;refine A7 Tryz.call29 (c29 c hc s _) ?_;refine Z0 ?_;refine A2 [3] ?_;exact AF3

theorem ANd (c:List Col) (hc:OkCols c) (ks:List Str) (hkl:ks.length≤1048576) (Hp:List AObj):AFun Tryz.prog 63 [J4 ks,.fn (.func 28) [] [.ro [Ce c]]] Hp (A5 (Xd (ADg c) ks)):=by
 refine Ah [.tmp 4] [0,1] Tryz.func63 Tryz.ntmps63 (fun d=>?_)
 refine Z64 ?_;refine Z32 ?_;refine A2 [0,1,7,8] ?_
 refine Bh (α:=Nat) (fun x=>⟨19,A9 0 (J4 ks) (A9 1 (.fn (.func 28) [] [.ro [Ce c]]) (A9 7 (A5 ks.length) (A9 8 (A5 (x:Nat)) (fun _=>.any)))),Hp,[],[],none⟩) (fun x=>x≤ks.length∧∀(j:Nat) (y:Str),j<x→ks[j]? = some y→¬ADg c y=true) (fun x=>ks.length-x) (0) (by simp) (Bc (by simp)) rfl (fun x hx=>?_)
 refine Z2 ?_;refine A2 [0,1,7,8,9] ?_
 refine Gz (fun ht9=>?_) (fun ht9=>?_)
 ·have hlt:x<ks.length:=by simpa using ht9
  refine Z19 ?_;refine Z1 ?_;refine A2 [0,1,5,7,8] ?_;refine Z13 ?_
  refine A4 (h:=Ag (x) (Ac ks[x]) (fun _=>B7 hlt)) (hr:=?_)
  refine A4 ?_;refine R.callV Tryz.call28 (c28 c hc ks[x] _) ?_;refine A2 [0,1,5,7,8,16] ?_
  refine A3 (fun ht16=>?_) (fun ht16=>?_)
  ·refine Z1 ?_;refine py ?_;exact A8 (Ai A6) ⟨by rw [zz hlt ht16 hx.2],rfl⟩
  refine Vf ?_;exact AHj
 refine Z31 ?_;refine bg ?_;exact A8 (Ai A6) ⟨by rw [lw (K1 (by simp at ht9;omega) hx.2)],rfl⟩

theorem ANe (c:List Col) (hc:OkCols c) (ks:List Str) (hkl:ks.length≤1048576) (Hp:List AObj):AFun Tryz.prog 27 [J4 ks,.fn (.func 28) [] [.ro [Ce c]]] Hp (At (ks.any (ADg c))):=by
 refine Ah [.tmp 4] [0,1] Tryz.func27 Tryz.ntmps27 (fun d=>?_)
 refine Z64 ?_;refine Z1 ?_;refine A7 Tryz.call63 (ANd c hc ks hkl _) ?_;refine Z0 ?_;refine Z27 ?_;exact A8 (Ai A6) ⟨by rw [←tj];try rfl,rfl⟩

theorem c12 (q:Qry) (h:QW q) (c:List Col) (hc:OkCols c) (Hp:List AObj):AFun Tryz.prog 12 [M6 q,Ce c] Hp (A5 (D7 q c)):=by
 refine Ah [.tmp 4] [0,1] Tryz.func12 Tryz.ntmps12 (fun d=>?_)
 refine pl ?_;refine Z23 ?_;refine A7 Tryz.call25 (c25 q h _) ?_;refine N4 ?_;refine Bw Tryz.call26 (C:=(((!(Dq q))==false))) (fun hB=>c26 c hc _) ?_;refine Z95 ?_;refine A2 [2,3,14] ?_
 refine A3 (fun ht14=>?_) (fun ht14=>?_)
 ·have hm:D7 q c=1:=if_pos ht14
  exact pt
 refine bj ?_;refine I9 ?_;refine A7 Tryz.call27 (ANe c hc q.cols h.len _) ?_;refine A2 [2,3,18] ?_
 refine A3 (fun ht18=>?_) (fun ht18=>?_)
 ·have hm:D7 q c=9:=by unfold D7;rw [if_neg (by rw [ht14];simp)];exact if_pos ht18
  exact pt
 have ht18b:¬(q.cols.any fun s=>decide (Co s c<0))=true:=fun e=>Bool.false_ne_true (ht18.symm.trans e)
 refine Kq ?_;refine A7 Tryz.call30 (c30 q h _) ?_;refine A4 ?_;refine A2 [2,3,21] ?_
 refine A3 (fun ht21=>?_) (fun ht21=>?_)
 ·have hm:D7 q c=0:=by unfold D7;rw [if_neg (by rw [ht14];simp),if_neg ht18b,if_pos ht21]
  exact pt
 have hm0:D7 q c=if (Db q.whr c).2 != 0 then (Db q.whr c).2 else if !P2 q.whr c 3 then 10 else 0:=by unfold D7;rw [if_neg (by rw [ht14];simp),if_neg ht18b,if_neg (by rw [ht21];simp)]
 refine L2 ?_;refine A7 Tryz.call31 (c31 61 q.whr h.ok (by decide) c hc _) ?_;refine Z86 ?_;refine A2 [2,3,6] ?_;refine Z1 ?_;refine A2 [2,3,6,30] ?_
 refine A3 (fun ht30=>?_) (fun ht30=>?_)
 ·have hm:D7 q c=(Db q.whr c).2:=by rw [hm0,if_pos ht30]
  refine Z1 ?_;refine A2 [4] ?_;exact Z70
 refine L2 ?_;refine A7 Tryz.call32 (c32 61 q.whr h.ok (by decide) c hc 3 _) ?_;refine A4 ?_;refine A2 [36] ?_
 refine A3 (fun ht36=>?_) (fun ht36=>?_)
 ·have hm:D7 q c=10:=by rw [hm0,if_neg (by rw [ht30];simp),if_pos ht36]
  exact pt
 have hm:D7 q c=0:=by rw [hm0,if_neg (by rw [ht30];simp),if_neg (by rw [ht36];simp)]
 refine Z93 ?_;exact AIi

abbrev cv (r:Row):List AV:=[A5 r.key,Fh r.l]
theorem RW.at {rows:List Row} (h:RW rows) {k:Nat} (hk:k<rows.length):rows[k].l.length≤1048576∧∀v∈rows[k].l, -9223372036854775808≤v.n∧v.n≤9223372036854775807:=h.each _ (Br hk)
theorem c19 (q:Qry) (c:List Col) (rows:List Row) (Hp:List AObj):AFun Tryz.prog 19 [M6 q,Ce c,Hi rows] Hp (.fn (.func 47) [] [.ro [Hi rows],.ro (qoC false q),.ro [Ce c]]):=by
 refine Ah [.tmp 6] [0,1,2] Tryz.func19 Tryz.ntmps19 (fun d=>?_)
 refine Z20 ?_;refine A2 [3,4,5] ?_;refine Eg ?_;refine I9 ?_;refine A4 ?_;refine Ts ?_;exact A8 (Ai A6) ⟨rfl,rfl⟩ (hlow:=by simp [or_imp,forall_and];exact fun a _=>B2 _ a)

theorem c47 (l:Nat) (q:Qry) (h:QW q) (c:List Col) (hc:OkCols c) (rows:List Row) (hw:RW rows) (U:Nat→List AObj) (N:Nat→Prop) (Z:List AObj→Prop) (hlen:∀k,(U k).length=(U 0).length) (hll:l<(U 0).length)
  (hlw:∀k,∀x∈U k,ObjLow (U 0).length x) (h0:N 0) (hn:∀k y,rows[k]? = some y→N k→(C1 q c y.l).2=0→(C1 q c y.l).1=false→N (k+1)∧U (k+1)=U k)
  (he:∀k y X,rows[k]? = some y→N k→(C1 q c y.l).2≠0→AYield Tryz.prog l [.agg [A5 0,.nil],A5 (C1 q c y.l).2] (U k++X) (fun b H'=>∃V,H'=V++X∧V.length=(U 0).length∧(∀x∈V,ObjLow (U 0).length x)∧Z V))
  (hy:∀k y X,rows[k]? = some y→N k→(C1 q c y.l).2=0→(C1 q c y.l).1=true→AYield Tryz.prog l [Fi y,A5 0] (U k++X) (fun b H'=>(b=true∧N (k+1)∧H'=U (k+1)++X)∨(b=false∧∃V,H'=V++X∧V.length=(U 0).length∧(∀x∈V,ObjLow (U 0).length x)∧Z V)))
  (hR:N rows.length→Z (U rows.length)):ACall Tryz.prog 47 [.yield l,.ro [Hi rows],.ro (qoC false q),.ro [Ce c]] (U 0) (fun _ H'=>Z H'):=by
 refine Ah [] [0,1,2,3] Tryz.func47 Tryz.ntmps47 (fun d=>?_)
 refine Z13 ?_;refine A2 [0,2,3,9,10,11] ?_
 refine Bh (α:=Nat) (fun x=>⟨37,A9 0 (.yield l) (A9 2 (.ro (qoC false q)) (A9 3 (.ro [Ce c]) (A9 9 (Hi rows) (A9 10 (A5 rows.length) (A9 11 (A5 (x:Nat)) (fun _=>.any)))))),U x,[],[],none⟩) (fun x=>x≤rows.length∧N x) (fun x=>rows.length-x) (0) ⟨Av _,h0⟩ (Bc (by simp)) rfl (fun x hx=>?_)
 refine Z2 ?_;refine A2 [0,2,3,9,10,11,12] ?_
 refine Gz (fun ht12=>?_) (fun ht12=>?_)
 ·have hlt:x<rows.length:=by simpa using ht12
  have hwl:=hw.len
  refine jq ?_
  refine A4 (h:=Ag (x) (Fi rows[x]) (fun _=>B7 hlt)) (hr:=?_)
  refine ju ?_;refine A2 [0,2,3,6,9,10,11] ?_;refine Z20 ?_;refine A7 Tryz.call48 (c48 q h c hc rows[x].l (hw.at hlt).1 (hw.at hlt).2 _) ?_;refine Z86 ?_;refine A2 [0,2,3,6,7,8,9,10,11] ?_;refine Z8 ?_;refine A2 [0,2,3,6,7,8,9,10,11,24] ?_
  refine A3 (fun ht24=>?_) (fun ht24=>?_)
  ·refine Z2 ?_;refine k7 ?_;refine A4 ?_
   refine R.yield (l:=l) (args:=[.agg [A5 0,.nil],A5 (C1 q c rows[x].l).2]) (he x rows[x] _ (Aa hlt) hx.2 (by simpa using ht24)) ?_
   rintro b V O hV ⟨W,h2,h3,h4,h5⟩
   obtain ⟨rfl,rfl⟩:=Zo h2 (by rw [hV,hlen x,h3])
   refine ⟨fun _=>by rw [h3];exact h4,fun o ho=>(by cases ho),?_⟩
   refine w5 ?_;refine Z5 ?_;refine K.lpR ?_;exact A8 .nores (hp:=h5)
  refine Z88 ?_;refine Z6 ?_
  refine G.yield (l:=l) (C:=((C1 q c rows[x].l).1==true)) (args:=[Fi rows[x],A5 0]) (fun hC=>hy x rows[x] _ (Aa hlt) hx.2 (by simpa using ht24) (by simpa using hC)) ?_
  intro b V O hV hb hb0
  have hVO:O=[AObj.cells 46 (cv rows[x])]∧(((C1 q c rows[x].l).1=false∧N (x+1)∧V=U (x+1))∨((C1 q c rows[x].l).1=true∧b=true∧N (x+1)∧V=U (x+1))∨((C1 q c rows[x].l).1=true∧b=false∧V.length=(U 0).length∧(∀y∈V,ObjLow (U 0).length y)∧Z V)):=by
   cases hcn:(C1 q c rows[x].l).1 with
   | false =>
    obtain ⟨h1,h2⟩:=hb0 (by rw [hcn];rfl)
    obtain ⟨h3,h4⟩:=hn x _ (Aa hlt) hx.2 (by simpa using ht24) hcn
    exact ⟨h2,.inl ⟨rfl,h3,h1.trans h4.symm⟩⟩
   | true =>
    rcases hb (by rw [hcn];rfl) with ⟨h1,h3,h2⟩|⟨h1,W,h2,h3,h4,h5⟩
    ·have h6:=Zo h2 (by rw [hV,hlen x,hlen (x+1)])
     exact ⟨h6.2,.inr (.inl ⟨rfl,h1,h3,h6.1⟩)⟩
    obtain ⟨rfl,rfl⟩:=Zo h2 (by rw [hV,hlen x,h3])
    exact ⟨rfl,.inr (.inr ⟨rfl,h1,h3,h4,h5⟩)⟩
  obtain ⟨rfl,hVO⟩:=hVO
  have hVl:V.length=(U 0).length:=by rw [hV,hlen x]
  have hVw:∀y∈V,ObjLow (U 0).length y:=by
   rcases hVO with ⟨_,_,rfl⟩|⟨_,_,_,rfl⟩|⟨_,_,_,h,_⟩
   ·exact hlw _
   ·exact hlw _
   exact h
  refine ⟨fun _=>by rw [hVl];exact hVw,fun o ho=>(by cases ho),?_⟩
  refine Z95 ?_;refine A2 [0,2,3,9,10,11,35] ?_
  refine A3 (fun ht35=>?_) (fun ht35=>?_)
  ·have hRV:Z V:=by
    rcases hVO with ⟨h1,_⟩|⟨h1,h2,_⟩|⟨_,_,_,_,h5⟩
    ·rw [h1] at ht35;simp at ht35
    ·rw [h1,h2] at ht35;simp at ht35
    exact h5
   refine Z41 ?_;refine K.lpR ?_;exact A8 .nores (hp:=hRV)
  have hVn:N (x+1)∧V=U (x+1):=by
   rcases hVO with ⟨_,h2,h3⟩|⟨_,_,h2,h3⟩|⟨h1,h2,_⟩
   ·exact ⟨h2,h3⟩
   ·exact ⟨h2,h3⟩
   rw [h1,h2] at ht35;simp at ht35
  obtain ⟨hN,rfl⟩:=hVn
  refine Vf ?_;refine A2 [0,2,3,9,10,11] ?_;refine B5 (x+1) ⟨hlt,hN⟩ (by omega) ?_
  exact E5 (own:=[]) (fun _=>.refl _) (by repeat (first|exact C5|refine C4 (by first|(simp [or_imp,forall_and];done)|(simp [or_imp,forall_and];exact fun a _=>B2 _ a)|(have:=hlen (x+1);simp;omega)) ?_)) (by simp) (by simp)
 have hxe:x=rows.length:=by have:=hx.1;simp at ht12;omega
 refine K.lpE ?_;exact Jz .nores (hp:=by rw [hxe];exact hR (hxe ▸ hx.2))

def Hl (c:List Col) (x:Row) (s:Str):Val:=x.l.getD (Co s c).toNat noV
theorem Qy {q:Qry} {c:List Col} {x:Row} (h:q.all=true):Lc q c x=x:=by unfold Lc;rw [h];rfl
theorem Of {q:Qry} {c:List Col} {x:Row} (h:q.all=false):Lc q c x=⟨x.key,q.cols.map (Hl c x)⟩:=by unfold Lc;rw [h];rfl
theorem o8 {c:List Col} {s:Str} (h:¬Co s c<0):∃j:Nat,Co s c=(j:Int)∧j<c.length:=Ni h
theorem c20 (q:Qry) (h:QW q) (c:List Col) (hc:OkCols c) (x:Row) (hx:x.l.length≤1048576) (hr:c.length=x.l.length) (hn:∀s∈q.cols,¬Co s c<0) (Hp:List AObj):AFun Tryz.prog 20 [M6 q,Ce c,Fi x] Hp (Fi (Lc q c x)):=by
 refine Ah [.cell 6 46] [0,1,2] Tryz.func20 Tryz.ntmps20 (fun d=>?_)
 refine Z1 ?_;refine Ks ?_;refine A2 [1,3,5,6] ?_;refine Z1 ?_;refine k7 ?_;refine Z16 ?_;refine A2 [1,3,5,6,7] ?_;refine Z8 ?_;refine A2 [1,3,5,6,7,14] ?_
 refine A3 (fun ht14=>?_) (fun ht14=>?_)
 ·refine Z1 ?_;refine A7 Tryz.call49 (c49 x.l hx _) ?_;refine AAx ?_;refine A2 [6,7] ?_;refine dv ?_;refine A2 [6] ?_;refine Z9 ?_;exact A8 (Ai (Az jA jS)) ⟨by rw [Qy ht14],rfl⟩ (hlow:=by simp [or_imp,forall_and])
 refine Z3 ?_;refine Rk ?_;refine Pa 1 1 3 ?_;refine Z61 ?_;refine A2 [1,5,6,7,21,22,23] ?_
 refine Bh (α:=Nat) (fun i=>⟨41,A9 1 (Ce c) (A9 5 (.ro (cv x)) (A9 6 (.ptr (oid Hp.length 0) 0) (A9 7 (.ptr (oid Hp.length 1) 0) (A9 21 (J4 q.cols) (A9 22 (A5 (q.cols.length:Nat)) (A9 23 (A5 (i:Nat)) (fun _=>.any))))))),Hp,[.cells 46 [A5 0,.nil],.cells 46 [A5 x.key,.slice true 3 (((q.cols.take i).map (Hl c x)).map B8)]],[],none⟩) (fun i=>i≤q.cols.length) (fun i=>q.cols.length-i) (0) (Av _) (Bc (by simp)) rfl (fun i hi=>?_)
 refine Z2 ?_;refine A2 [1,5,6,7,21,22,23,24] ?_
 refine Gz (fun ht24=>?_) (fun ht24=>?_)
 ·have hlt:i<q.cols.length:=by simpa using ht24
  have hkl:=h.len
  obtain ⟨j,hj,hjc⟩:=o8 (hn _ (Br hlt))
  have hk:0≤Co q.cols[i] c∧(Co q.cols[i] c).toNat<x.l.length:=by omega
  have hget:(x.l.map B8)[(Co q.cols[i] c).toNat]? = some (B8 (Hl c x q.cols[i])):=by
   rw [C8,Aa hk.2]
   unfold Hl
   rw [D6,Aa hk.2]
   rfl
  refine jq ?_
  refine A4 (h:=Ag (i) (Ac q.cols[i]) (fun _=>B7 hlt)) (hr:=?_)
  refine Z0 ?_;refine A2 [1,5,6,7,9,21,22,23] ?_;refine W.drawY0 [0,1,0,4,0,0,48,124,252,508,1023,2047,4095] [1] [.q 1 [] [0],.s [28] (some 0) [] [],.q 8 [] []] (fun _=>Hp) (fun B=>[.cells 46 [A5 0,.nil],.cells 46 (if B 0=true then [A5 x.key,.slice false 3 (((q.cols.take i).map (Hl c x)).map B8)] else [A5 x.key,.slice true 3 (((q.cols.take i).map (Hl c x)).map B8)])]) Aj (by kernel_rfl) rfl rfl (fun _=>rfl) ?_
  apply Y.q
  ·intro B hT hF
   exact Z79
  case hTF=>decide
  refine Y.loadOwnT (u:=Hp.length) (n:=1) (t':=46) (cs:=[A5 x.key,.slice true 3 (((q.cols.take i).map (Hl c x)).map B8)]) (cs':=[A5 x.key,.slice false 3 (((q.cols.take i).map (Hl c x)).map B8)]) Tryz.isAgg44 (fun B hB=>⟨rfl,by simp only [hB];rfl,by simp [upd],rfl⟩) ?_
  apply Y.q
  ·intro B hT hF
   refine Z92 ?_;refine Cy Tryz.call29 (c29 c hc q.cols[i] _) ?_
   refine An (h:=Ag ((Co q.cols[i] c).toNat) (B8 (Hl c x q.cols[i])) (fun _=>hget)) (hr:=?_)
   exact AAn
  case hTF=>decide
  refine F7 (tn:=[1]) (O:=[.cells 46 [A5 0,.nil],.cells 46 [A5 x.key,.slice false 3 (((q.cols.take i).map (Hl c x)).map B8)]]) ?_
  refine Ix jU Tryz.type24 ?_ ?_ ?_
  ·simp only [B6,Ei,Aw,Bb,Tryz.t24];omega
  ·simp only [B6,Ei,Aw,Bb,Tryz.t24];omega
  refine A4 ?_;refine R.storeOwnT jS ?_;refine A2 [1,5,6,7,21,22,23] ?_;refine jv ?_;refine A2 [1,5,6,7,21,22,23] ?_;refine B5 (i+1) hlt (by omega) ?_;exact Bx (by rw [gv hlt,Cs];rfl)
 have hxe:q.cols.length≤i:=by simpa using ht24
 refine Z31 ?_;refine dv ?_;refine Ts ?_;exact A8 (Ai (Az jA jS)) ⟨by rw [Of ht14,De hxe],rfl⟩ (hlow:=by simp [or_imp,forall_and];intro y hy;obtain ⟨s,_,rfl⟩:=Du.1 (Np hy);simp [or_imp,forall_and])

def Gi (q:Qry) (c:List Col) (rows:List Row) (k:Nat):List Row:=((rows.take k).filter fun x=>(C1 q c x.l).1).map (Lc q c)
theorem Sl {q:Qry} {c:List Col} {rows:List Row} {k:Nat} {y:Row} (hk:rows[k]? = some y) (hf:(C1 q c y.l).1=false):Gi q c rows (k+1)=Gi q c rows k:=by
 unfold Gi
 rw [Px,hk,Zs]
 simp [Zt,hf]
theorem Qz {q:Qry} {c:List Col} {rows:List Row} {k:Nat} {y:Row} (hk:rows[k]? = some y) (hf:(C1 q c y.l).1=true):Gi q c rows (k+1)=Gi q c rows k++[Lc q c y]:=by
 unfold Gi
 rw [Px,hk,Zs]
 simp [Zt,hf]
theorem Xe (q:Qry) (c:List Col) (rows:List Row) (k:Nat):(Gi q c rows k).length≤rows.length:=by
 unfold Gi
 rw [B6]
 exact AJq
def NK (q:Qry) (c:List Col) (rows:List Row) (k:Nat):Prop:=Kb q c rows []=Kb q c (rows.drop k) (Gi q c rows k)
theorem R0 {rows:List Row} {k:Nat} {y:Row} (hk:rows[k]? = some y):rows.drop k=y::rows.drop (k+1):=by
 obtain ⟨h1,h2⟩:=Ad.1 hk
 rw [Gx h1,h2]
theorem ADh {q:Qry} {c:List Col} {rows:List Row} {k:Nat} {y:Row} (hk:rows[k]? = some y) (hN:NK q c rows k) (he:(C1 q c y.l).2≠0):Kb q c rows []=([],(C1 q c y.l).2):=by
 rw [hN,R0 hk,Kb,if_pos (by simpa using he)]
theorem AA0 {q:Qry} {c:List Col} {rows:List Row} {k:Nat} {y:Row} (hk:rows[k]? = some y) (hN:NK q c rows k) (he:(C1 q c y.l).2=0) (hf:(C1 q c y.l).1=false):NK q c rows (k+1):=by
 unfold NK
 rw [hN,R0 hk,Kb,if_neg (by rw [he];simp),if_neg (by rw [hf];simp),Sl hk hf]
theorem AH2 {q:Qry} {c:List Col} {rows:List Row} {k:Nat} {y:Row} (hk:rows[k]? = some y) (hN:NK q c rows k) (he:(C1 q c y.l).2=0) (hf:(C1 q c y.l).1=true) (hl:(((Gi q c rows k).length+1:Nat):Int)≠q.lim):NK q c rows (k+1):=by
 unfold NK
 rw [hN,R0 hk,Kb,if_neg (by rw [he];simp),if_pos hf,if_neg (by simpa using hl),Qz hk hf]
theorem ADi {q:Qry} {c:List Col} {rows:List Row} {k:Nat} {y:Row} (hk:rows[k]? = some y) (hN:NK q c rows k) (he:(C1 q c y.l).2=0) (hf:(C1 q c y.l).1=true) (hl:(((Gi q c rows k).length+1:Nat):Int)=q.lim):Kb q c rows []=(Gi q c rows (k+1),0):=by
 rw [hN,R0 hk,Kb,if_neg (by rw [he];simp),if_pos hf,if_pos (by simpa using hl),Qz hk hf]
theorem ADj {q:Qry} {c:List Col} {rows:List Row} (hN:NK q c rows rows.length):Kb q c rows []=(Gi q c rows rows.length,0):=by
 rw [hN,List.drop_length,Kb]
theorem AL1 {q:Qry} {c:List Col} {rows:List Row}:NK q c rows 0:=rfl
theorem tk {n k:Nat} {o:Bool} {l:List Row}:Low n (.slice o k (l.map Fi)):=by simp [or_imp,forall_and]
theorem tm {n k:Nat} {o:Bool} {l:List Row} {r:Row}:Low n (.slice o k (l.map Fi++[Fi r])):=by simp [or_imp,forall_and]
theorem ANf {U:List AObj} {i j:Nat} {x y:AObj} (h:U[i]? = some x) (hne:j≠i):(U.set j y)[i]? = some x:=by rw [Cr hne];exact h
theorem ADk {q:Qry} {c:List Col} {l:List Val} (h:(C1 q c l).2=0):c.length=l.length:=by
 have h1:=rm (q:=q) (c:=c) (l:=l) (by rw [h];rfl)
 unfold Fb at h1
 simp only [Al,beq_iff_eq] at h1
 exact h1.1.2.symm
theorem Xf {q:Qry} {c:List Col} (h:D7 q c=0):∀s∈q.cols,¬Co s c<0:=by
 intro s hs hf
 unfold D7 at h
 split at h
 ·cases h
 rw [if_pos (Gw.2 ⟨s,hs,by simpa using hf⟩)] at h
 cases h
theorem o9 {q:Qry} {c:List Col} {rows:List Row} (h:((D7 q c != 0) || (q.lim==0))=true):Ok q c rows=([],D7 q c):=if_pos h
theorem ADl {q:Qry} {c:List Col} {rows:List Row} (h:((D7 q c != 0) || (q.lim==0))=false):D7 q c=0∧Ok q c rows=Kb q c rows []:=by
 refine ⟨?_,if_neg (by rw [h];simp)⟩
 simp only [Cv,bne_eq_false_iff_eq] at h
 exact h.1
theorem c10 (q:Qry) (h:QW q) (c:List Col) (hc:OkCols c) (rows:List Row) (hw:RW rows) (Hp:List AObj):AFun Tryz.prog 10 [M6 q,Ce c,Hi rows] Hp (.tup [Hi (Ok q c rows).1,A5 (Ok q c rows).2]):=by
 refine Ah [.cell 6 31,.cell 7 36] [0,1,2,10,11] Tryz.func10 Tryz.ntmps10 (fun d=>?_)
 refine Z1 ?_;refine Ks ?_;refine Ks ?_;refine A2 [2,3,4,6,7,10,11] ?_;refine Z8 ?_;refine A7 Tryz.call12 (c12 q h c hc _) ?_;refine A4 ?_;refine A2 [2,3,4,6,7,8,10,11] ?_;refine Z13 ?_;refine Z90 ?_;refine A2 [2,3,4,6,7,8,10,11,21] ?_
 refine A3 (fun ht21=>?_) (fun ht21=>?_)
 ·have hm:=o9 (rows:=rows) ht21
  refine dv ?_;refine R.nilOwn 0 2 ?_;refine F1 ?_;refine vj ?_;exact A8 (B4 (Jx jA) (Jx jA)) ⟨by rw [hm];rfl,rfl⟩
 have hy:=ADl (rows:=rows) ht21
 refine Z3 ?_;refine Z33 ?_;refine A2 [2,3,4,6,7,9,10,11] ?_;refine Rk ?_;refine R.nilOwn 2 2 ?_
 refine bf (fun hlow=>?_)
 refine Z11 ?_;refine A7 Tryz.call19 (c19 q c rows _) ?_;refine A2 [3,4,6,7,9,10,11,26] ?_;refine Et ?_
 refine Vc (m:=3) Tryz.call47 (fun FR as' bd' hFR has hbd=>?_)
 have hFRl:∀s,Low (Hp.length+5) (FR s):=by
  intro s
  rw [hFR]
  refine am ?_
  revert s
  repeat (first|exact C5|refine C4 (by first|(simp [oid,or_imp,forall_and];done)|(simp [oid,or_imp,forall_and]<;>(first|exact fun a _=>B2 _ a|omega))) ?_)
 have hOl:∀{e:Int} {o:List Row} {lp:AObj},ObjLow (Hp.length+5) lp→∀x∈Hp++[AObj.cells 31 [AV.nil],AObj.cells 36 [A5 e],AObj.cells 31 [AV.slice true 2 ((o).map Fi)],AObj.defs,lp],ObjLow (Hp.length+5) x:=by
  intro e o lp hlp x hx
  refine Qf (fun x hx=>ObjLow.le (by omega) (hlow x hx)) (fun x hx=>?_) x hx
  simp only [By,J7,or_false] at hx
  rcases hx with rfl|rfl|rfl|rfl|rfl
  ·intro y hy;rw [Ck.1 hy];simp
  ·intro y hy;rw [Ck.1 hy];simp
  ·intro y hy;rw [Ck.1 hy];exact tk
  ·trivial
  exact hlp
 have hwy:∀{k:Nat} {y:Row},rows[k]? = some y→y.l.length≤1048576∧∀v∈y.l, -9223372036854775808≤v.n∧v.n≤9223372036854775807:=fun hk=>hw.each _ (Be hk)
 refine ⟨_,c47 (oid Hp.length 4) q h c hc rows hw (fun k=>Hp++[AObj.cells 31 [AV.nil],AObj.cells 36 [A5 0],AObj.cells 31 [AV.slice true 2 ((Gi q c rows k).map Fi)],AObj.defs,AObj.loop LoopState.ready none FR 45 #[27,28] as' bd' (oid Hp.length 3)]) (NK q c rows) (fun V=>(∃o lp,V=Hp++[AObj.cells 31 [AV.nil],AObj.cells 36 [A5 0],AObj.cells 31 [AV.slice true 2 ((o).map Fi)],AObj.defs,lp]∧(lp=AObj.loop LoopState.ready none FR 45 #[27,28] as' bd' (oid Hp.length 3)∨lp=AObj.loop LoopState.done (some (Code.exit 0)) FR 45 #[27,28] as' bd' (oid Hp.length 3))∧Kb q c rows []=(o,0))∨(∃e k,V=Hp++[AObj.cells 31 [AV.nil],AObj.cells 36 [A5 e],AObj.cells 31 [AV.slice true 2 ((Gi q c rows k).map Fi)],AObj.defs,AObj.loop LoopState.done (some Code.ret) FR 45 #[27,28] as' bd' (oid Hp.length 3)]∧Kb q c rows []=([],e))) (fun k=>by simp) (by simp [oid]) (fun k=>(fun x hx=>by rw [Aq];exact hOl (lp:=AObj.loop LoopState.ready none FR 45 #[27,28] as' bd' (oid Hp.length 3)) (by exact ⟨hFRl,by simp [oid]⟩) x hx)) AL1 (fun k y hk hN he0 hf=>⟨AA0 hk hN he0 hf,by simp only [Sl hk hf]⟩) (fun k y X hk hN hne=>?_) (fun k y X hk hN he0 hf=>?_) (fun hN=>.inl ⟨_,_,rfl,.inl rfl,ADj hN⟩),?_⟩
 ·generalize hV:Hp++[AObj.cells 31 [AV.nil],AObj.cells 36 [A5 0],AObj.cells 31 [AV.slice true 2 ((Gi q c rows k).map Fi)],AObj.defs,AObj.loop LoopState.ready none FR 45 #[27,28] as' bd' (oid Hp.length 3)]++X=V
  have hL:V[oid Hp.length 4]? = some (AObj.loop LoopState.ready none FR 45 #[27,28] as' bd' (oid Hp.length 3)):=by rw [←hV,C2,Bi];rfl
  have hA0:V[oid Hp.length 2]? = some (AObj.cells 31 [AV.slice true 2 ((Gi q c rows k).map Fi)]):=by rw [←hV,C2,Bi];rfl
  have hB0:V[oid Hp.length 0]? = some (AObj.cells 31 [AV.nil]):=by rw [←hV,C2,Bi];rfl
  have hC0:V[oid Hp.length 1]? = some (AObj.cells 36 [A5 0]):=by rw [←hV,C2,Bi];rfl
  refine Rh (pd:=none) (fr:=FR) (sz:=45) (ps:=#[27,28]) (df:=oid Hp.length 3) (asg:=as') (bd:=bd') hL rfl (by decide) (fun d=>?_)
  subst hFR has hbd
  refine Dg [3,4,6,7,9,27,28] ?_;refine js ?_;refine A2 [3,4,6,7,9,10,28] ?_;refine Z43 ?_;refine A2 [3,4,6,7,9,10,11] ?_
  refine ⟨rfl,none,hL,?_⟩
  generalize hbz:(AObj.loop LoopState.busy _ _ _ _ _ _ _)=bz
  have hA:(V.set (oid Hp.length 4) bz)[oid Hp.length 2]? = some (AObj.cells 31 [AV.slice true 2 ((Gi q c rows k).map Fi)]):=by rw [Cr (Dh (by decide))];exact hA0
  have hB:(V.set (oid Hp.length 4) bz)[oid Hp.length 0]? = some (AObj.cells 31 [AV.nil]):=by rw [Cr (Dh (by decide))];exact hB0
  have hC:(V.set (oid Hp.length 4) bz)[oid Hp.length 1]? = some (AObj.cells 36 [A5 0]):=by rw [Cr (Dh (by decide))];exact hC0
  refine Et ?_;refine Z8 ?_;refine A2 [3,4,6,7,9,10,11,30] ?_
  refine A3 (fun ht30=>?_) (fun ht30=>?_)
  ·refine Z2 ?_
   refine Ew jS hB ?_ ?_
   ·simp
   refine Ew jS (ANf hC (Dh (by decide))) ?_ ?_
   ·simp
   refine w5 ?_;refine Ko ?_
   subst hbz
   refine K.rdR (dt hL (Dh (by decide)) (Dh (by decide))) ?_
   refine ⟨Hp++[AObj.cells 31 [AV.nil],AObj.cells 36 [A5 (C1 q c y.l).2],AObj.cells 31 [AV.slice true 2 ((Gi q c rows k).map Fi)],AObj.defs,_],?_,by simp,(fun x hx=>by rw [Aq];exact hOl (lp:=_) (by exact ⟨hFRl,by simp [oid]⟩) x hx),.inr ⟨_,_,rfl,ADh hk hN hne⟩⟩
   subst hV
   simp only [C2,F3,Dz,Dr,List.set_cons_succ,List.set_cons_zero]
  exact absurd hne (by simpa using ht30)
 ·generalize hV:Hp++[AObj.cells 31 [AV.nil],AObj.cells 36 [A5 0],AObj.cells 31 [AV.slice true 2 ((Gi q c rows k).map Fi)],AObj.defs,AObj.loop LoopState.ready none FR 45 #[27,28] as' bd' (oid Hp.length 3)]++X=V
  have hL:V[oid Hp.length 4]? = some (AObj.loop LoopState.ready none FR 45 #[27,28] as' bd' (oid Hp.length 3)):=by rw [←hV,C2,Bi];rfl
  have hA0:V[oid Hp.length 2]? = some (AObj.cells 31 [AV.slice true 2 ((Gi q c rows k).map Fi)]):=by rw [←hV,C2,Bi];rfl
  have hB0:V[oid Hp.length 0]? = some (AObj.cells 31 [AV.nil]):=by rw [←hV,C2,Bi];rfl
  have hC0:V[oid Hp.length 1]? = some (AObj.cells 36 [A5 0]):=by rw [←hV,C2,Bi];rfl
  refine Rh (pd:=none) (fr:=FR) (sz:=45) (ps:=#[27,28]) (df:=oid Hp.length 3) (asg:=as') (bd:=bd') hL rfl (by decide) (fun d=>?_)
  subst hFR has hbd
  refine Dg [3,4,6,7,9,27,28] ?_;refine js ?_;refine A2 [3,4,6,7,9,10,28] ?_;refine Z43 ?_;refine A2 [3,4,6,7,9,10,11] ?_
  refine ⟨rfl,none,hL,?_⟩
  generalize hbz:(AObj.loop LoopState.busy _ _ _ _ _ _ _)=bz
  have hA:(V.set (oid Hp.length 4) bz)[oid Hp.length 2]? = some (AObj.cells 31 [AV.slice true 2 ((Gi q c rows k).map Fi)]):=by rw [Cr (Dh (by decide))];exact hA0
  have hB:(V.set (oid Hp.length 4) bz)[oid Hp.length 0]? = some (AObj.cells 31 [AV.nil]):=by rw [Cr (Dh (by decide))];exact hB0
  have hC:(V.set (oid Hp.length 4) bz)[oid Hp.length 1]? = some (AObj.cells 36 [A5 0]):=by rw [Cr (Dh (by decide))];exact hC0
  refine Et ?_;refine Z8 ?_;refine A2 [3,4,6,7,9,10,11,30] ?_
  refine A3 (fun ht30=>?_) (fun ht30=>?_)
  ·simp at ht30
  refine Z3 ?_;refine Fs [0,0,0,0,14,30,63,127] [0] [.s [32] (some 0) [] [],.q 5 [] []] (fun B=>(V.set (oid Hp.length 4) bz).set (oid Hp.length 2) (if B 0=true then .cells 31 [AV.slice false 2 ((Gi q c rows k).map Fi)] else .cells 31 [AV.slice true 2 ((Gi q c rows k).map Fi)])) (fun _=>[AObj.cells 46 (cv y)]) Aj (by kernel_rfl) (Cp hA) rfl (fun B=>by simp) ?_
  refine uz (o:=oid Hp.length 2) (t':=31) (cs:=[AV.slice true 2 ((Gi q c rows k).map Fi)]) (cs':=[AV.slice false 2 ((Gi q c rows k).map Fi)]) Tryz.isAgg31 (fun B hB=>⟨by simp only [hB];exact As hA,(Cb ..).symm,rfl⟩) ?_
  apply Y.q
  ·intro B hT hF
   refine Z34 ?_;refine Cy Tryz.call20 (c20 q h c hc y (hwy hk).1 (ADk he0) (Xf hy.1) _) ?_;exact Z84
  case hTF=>decide
  refine F7 (tn:=[0]) (U:=(V.set (oid Hp.length 4) bz).set (oid Hp.length 2) (.cells 31 [AV.slice false 2 ((Gi q c rows k).map Fi)])) ?_
  refine Ix jU Tryz.type46 ?_ ?_ ?_
  ·have hwl:=hw.len;have:=Xe q c rows k;simp [Tryz.t46];omega
  ·have hwl:=hw.len;have:=Xe q c rows k;simp [Tryz.t46];omega
  refine jk jS (As hA) ?_ ?_
  ·exact tm
  refine A2 [3,9] ?_;refine Eg ?_
  refine A4 (h:=Cn (As (As hA))) (hr:=?_)
  refine Z61 ?_;refine A2 [43] ?_
  refine A3 (fun ht43=>?_) (fun ht43=>?_)
  ·refine AW.exit ?_;refine K.blO (by decide) ?_
   subst hbz
   refine K.rdE (dt hL (Dh (by decide)) (Dh (by decide))) ?_
   refine .inr ⟨rfl,Hp++[AObj.cells 31 [AV.nil],AObj.cells 36 [A5 0],AObj.cells 31 [AV.slice true 2 ((Gi q c rows (k+1)).map Fi)],AObj.defs,_],?_,by simp,(fun x hx=>by rw [Aq];exact hOl (lp:=_) (by exact ⟨hFRl,by simp [oid]⟩) x hx),.inl ⟨_,_,rfl,.inr rfl,ADi hk hN he0 hf (by simpa using ht43)⟩⟩
   subst hV
   simp only [C2,F3,Dz,Dr,List.set_cons_succ,List.set_cons_zero]
   rw [Qz hk hf,Cs]
   rfl
  refine G5 ?_;refine Hc ?_
  subst hbz
  refine K.rdN (dt hL (Dh (by decide)) (Dh (by decide))) ?_
  refine .inl ⟨rfl,AH2 hk hN he0 hf (by simpa using ht43),?_⟩
  subst hV
  simp only [C2,F3,Dz,Dr,List.set_cons_succ,List.set_cons_zero]
  rw [Qz hk hf,Cs]
  rfl
 rintro r H' (⟨o,lp,rfl,rfl|rfl,hrun⟩|⟨e,k,rfl,hrun⟩)
 ·refine ⟨Hp,_,_,_,rfl,rfl,fun h=>h,?_,rfl,by simp,?_⟩
  ·intro o ho
   have:o=oid Hp.length 3:=by simpa using ho
   subst this
   rw [Bi]
   rfl
  refine Z12 ?_;refine dv ?_;refine F1 ?_;refine A2 [6,7] ?_;exact AHh
 ·refine ⟨Hp,_,_,_,rfl,rfl,fun h=>h,?_,rfl,by simp,?_⟩
  ·intro o ho
   have:o=oid Hp.length 3:=by simpa using ho
   subst this
   rw [Bi]
   rfl
  refine AW.exit ?_;refine K.blE ?_;refine Ef ?_;refine dv ?_;refine F1 ?_;refine A2 [6,7] ?_;exact AHh
 refine ⟨Hp,_,_,_,rfl,rfl,fun h=>h,?_,rfl,by simp,?_⟩
 ·intro o ho
  have:o=oid Hp.length 3:=by simpa using ho
  subst this
  rw [Bi]
  rfl
 refine W.nilOwn 0 2 ?_;refine Z41 ?_;exact A8 (B4 (Jx jA) (Jx jA)) ⟨by rw [hy.2,hrun];rfl,rfl⟩

end Go.SX.Nb

namespace Go.SX.Nb
open Go Go.SX Go.Proofs
variable [ErrAt]
set_option maxRecDepth 4000
structure RowAtT (c:List Col) (l:List Val) (k:Nat):Prop where
 le:k≤l.length
 ok:∀(i:Nat) (v:Val) (y:Col),i<k→l[i]? = some v→c[i]? = some y→Bu v=true∧(v.kind=0∨v.kind=y.kind)
theorem AH3 {c:List Col} {l:List Val} (h:((!(Mb c)) || (((l.length:Nat):Int) != ((c.length:Nat):Int)))=true):Fb c l=false:=by
 cases hr:Fb c l with
 | false=>rfl
 | true =>
  obtain ⟨h1,h2,_⟩:=row_iff.1 hr
  rw [h1,h2] at h
  simp at h
theorem ADm {c:List Col} {l:List Val} {k:Nat} (hl:k<l.length) (hc:k<c.length) (h:((!(Bu l[k])) || ((l[k].kind != 0)&&(l[k].kind != c[k].kind)))=true):Fb c l=false:=by
 cases hr:Fb c l with
 | false=>rfl
 | true =>
  obtain ⟨_,_,h3⟩:=row_iff.1 hr
  obtain ⟨h4,h5⟩:=h3 k _ _ (Aa hl) (Aa hc)
  rw [h4] at h
  rcases h5 with h5|h5<;>simp [h5] at h
theorem c21 (c:List Col) (hc:OkCols c) (l:List Val) (hll:l.length≤1048576) (Hp:List AObj):AFun Tryz.prog 21 [Ce c,Fh l] Hp (At (Fb c l)):=by
 refine Ah [.tmp 4] [0,1] Tryz.func21 Tryz.ntmps21 (fun d=>?_)
 refine Z64 ?_;refine Z23 ?_;refine A7 Tryz.call34 (c34 c hc _) ?_;refine Z46 ?_;refine Z90 ?_;refine A2 [0,1,15] ?_
 refine A3 (fun ht15=>?_) (fun ht15=>?_)
 ·simp only [B6] at ht15
  have hm:=AH3 ht15
  exact bh
 simp only [B6] at ht15
 have hcl:Mb c=true∧l.length=c.length:=by simp only [Cv,Jt,bne_eq_false_iff_eq] at ht15;exact ⟨ht15.1,by have:=ht15.2;omega⟩
 refine Kq ?_;refine Vg ?_
 refine Bh (α:=Nat) (fun k=>⟨49,A9 0 (Ce c) (A9 1 (Fh l) (A9 5 (A5 (k:Nat)) (fun _=>.any))),Hp,[],[],none⟩) (fun k=>RowAtT c l k) (fun k=>l.length-k) (0) ⟨Av _,fun i v y hi=>by omega⟩ (Bc rfl) rfl (fun k hx=>?_)
 refine Z48 ?_;refine A2 [0,1,5,19] ?_
 refine A3 (fun ht19=>?_) (fun ht19=>?_)
 ·have hlt:k<l.length:=by simp at ht19;omega
  have hltc:k<c.length:=by omega
  refine Z53 ?_;refine W.draw [0,0,3,7,15,31,63,127,127,511,1023,2047,4095,8191,16383,16383,65535,131071,262143,16383,16383,1589247,3686399,7880703,16777215,33554431,67108863] 24 Aj (by kernel_rfl) ?_;refine Z10 ?_
  refine An (h:=Ag (k) (B8 l[k]) (fun _=>B7 hlt)) (hr:=?_)
  refine An ?_;refine Cy Tryz.call50 (c50 l[k] _) ?_;refine Z10 ?_;refine Z72 ?_
  refine Ga (h:=Ag (k) (B8 l[k]) (fun _=>B7 hlt)) (hr:=?_)
  refine Z72 ?_;refine Z72 ?_;refine Z72 ?_
  refine Ga (h:=Ag (k) (B8 l[k]) (fun _=>B7 hlt)) (hr:=?_)
  refine Z72 ?_;refine Z72 ?_
  refine Ga (h:=Ag (k) (N5 c[k]) (fun _=>B7 hltc)) (hr:=?_)
  refine Z72 ?_;refine Ee ?_;refine Qa ?_;refine A2 [0,1,5,48] ?_
  refine A3 (fun ht48=>?_) (fun ht48=>?_)
  ·have hm:=ADm hlt hltc ht48
   exact vk
  refine AAq ?_
  refine B5 (k+1) ⟨hlt,fun i v y hi hv hy=>?_⟩ (by omega) (Bx rfl)
  rcases Bf i k with h|h
  ·exact hx.ok i v y h hv hy
  have e:i=k:=by omega
  subst e
  rw [Aa hlt] at hv
  rw [Aa hltc] at hy
  injection hv with hv
  injection hy with hy
  subst hv
  subst hy
  simp only [Cv,Jt,Us,bne_eq_false_iff_eq] at ht48
  exact ht48
 have hke:k=l.length:=by have:=hx.le;simp at ht19;omega
 have hm:Fb c l=true:=row_iff.2 ⟨hcl.1,hcl.2,fun i v y hv hy=>hx.ok i v y (by have:=(Ad.1 hv).1;omega) hv hy⟩
 refine Z52 ?_;exact vu

theorem AA1 {q:Qry} {c:List Col} (h:(!Dq q || !Mb c)=true):D7 q c=1:=if_pos (by rw [Lz];exact h)
theorem AA2 {q:Qry} {c:List Col} (h:(!Dq q || !Mb c)=false):D7 q c=if q.cols.any (fun s=>decide (Co s c<0)) then 9 else if !Fa q then 0 else li q.whr c 3:=if_neg (by rw [Lz,h];decide)
theorem tq {c:List Col} {l:List Str} {k:Nat} (hk:k<l.length) (h:decide (Co l[k] c<0)=true):(l.any fun s=>decide (Co s c<0))=true:=Gw.2 ⟨_,Br hk,h⟩
theorem tr {c:List Col} {l:List Str} (h:∀(j:Nat) (y:Str),j<l.length→l[j]? = some y→decide (Co y c<0)=false):(l.any fun s=>decide (Co s c<0))=false:=by
 rw [Li]
 intro y hy
 obtain ⟨j,hj,rfl⟩:=P5 hy
 rw [h j _ hj (Aa hj)]
 decide
theorem c13 (q:Qry) (h:QW q) (c:List Col) (hc:OkCols c) (Hp:List AObj):AFun Tryz.prog 13 [M6 q,Ce c] Hp (A5 (D7 q c)):=by
 refine Ah [.tmp 4] [0,1] Tryz.func13 Tryz.ntmps13 (fun d=>?_)
 refine Z1 ?_;refine A2 [1,2] ?_;refine Z23 ?_;refine A7 Tryz.call33 (c33 q h _) ?_;refine N4 ?_;refine Bw Tryz.call34 (C:=(((!(Dq q))==false))) (fun hB=>c34 c hc _) ?_;refine Z95 ?_;refine A2 [1,2,13] ?_
 refine A3 (fun ht13=>?_) (fun ht13=>?_)
 ·have hm:=AA1 ht13
  exact pt
 have hm0:=AA2 ht13
 have hlen:=h.len
 refine Kq ?_;refine A2 [1,2,5] ?_
 refine Bh (α:=Nat) (fun x=>⟨36,A9 1 (Ce c) (A9 2 (.ro (qoC false q)) (A9 5 (A5 (x:Nat)) (fun _=>.any))),Hp,[],[],none⟩) (fun x=>x≤q.cols.length∧∀(j:Nat) (y:Str),j<x→q.cols[j]? = some y→decide (Co y c<0)=false) (fun x=>q.cols.length-x) (0) (by simp) (Fq _) rfl (fun x hx=>?_)
 refine Lu ?_;refine A2 [1,2,5,18] ?_
 refine A3 (fun ht18=>?_) (fun ht18=>?_)
 ·have hlt:x<q.cols.length:=by simpa using ht18
  refine Z53 ?_;refine Z20 ?_
  refine A4 (h:=Ag (x) (Ac q.cols[x]) (fun _=>B7 hlt)) (hr:=?_)
  refine A4 ?_;refine A7 Tryz.call24 (c24 c hc q.cols[x] _) ?_;refine A4 ?_;refine A2 [1,2,5,28] ?_
  refine A3 (fun ht28=>?_) (fun ht28=>?_)
  ·have hm:=hm0.trans (if_pos (tq hlt (by simpa using ht28)))
   refine bg ?_;refine Z47 ?_;exact AFf
  refine Z96 ?_;refine A2 [1,2,5] ?_;exact B5 (x+1) ⟨hlt,K3 (p:=fun j y=>decide (Co y c<0)=false) hlt hx.2 (by simpa using ht28)⟩ (by omega) (Bx rfl)
 have ha:=tr (c:=c) fun j y hj=>hx.2 j y (by simp at ht18;omega)
 have hm1:=hm0.trans (if_neg (by rw [ha];decide))
 refine Z52 ?_;refine Z23 ?_;refine A7 Tryz.call22 (c22 q h _) ?_;refine A4 ?_;refine A2 [1,2,31] ?_
 refine A3 (fun ht31=>?_) (fun ht31=>?_)
 ·have hm:=hm1.trans (if_pos ht31)
  exact pt
 have hm:=hm1.trans (if_neg (by rw [ht31];decide))
 refine Oh ?_;refine A7 Tryz.call35 (c35 61 q.whr h.ok (by decide) h.size 3 c hc _) ?_;refine A4 ?_;exact AIi

def P3 (q:Qry) (c:List Col) (x:Row):Bool := !Fa q || Ih (Ab c x.l q.whr)
def Kc (q:Qry) (c:List Col) (rows:List Row) (k:Nat):List Row:=((rows.take k).filter (P3 q c)).map (Lc q c)
theorem Og {q:Qry} {c:List Col} {rows:List Row} {k:Nat} (hk:k<rows.length) (hf:P3 q c rows[k]=false):Kc q c rows (k+1)=Kc q c rows k:=by
 unfold Kc
 rw [Px,Aa hk,Zs]
 simp [Zt,hf]
theorem M7 {q:Qry} {c:List Col} {rows:List Row} {k:Nat} (hk:k<rows.length) (hf:P3 q c rows[k]=true):Kc q c rows (k+1)=Kc q c rows k++[Lc q c rows[k]]:=by
 unfold Kc
 rw [Px,Aa hk,Zs]
 simp [Zt,hf]
theorem R1 (q:Qry) (c:List Col) (rows:List Row) (k:Nat):(Kc q c rows k).length≤rows.length:=by
 unfold Kc
 rw [B6]
 exact AJq
def NW (q:Qry) (c:List Col) (rows:List Row) (k:Nat):Prop:=Lg q c rows []=Lg q c (rows.drop k) (Kc q c rows k)
theorem oa {q:Qry} {c:List Col} {rows:List Row} {k:Nat} (hk:k<rows.length) (hN:NW q c rows k):Lg q c rows []=Lg q c (rows[k]::rows.drop (k+1)) (Kc q c rows k):=by rw [hN,Gx hk]
theorem AH4 {q:Qry} {c:List Col} {rows:List Row} {k:Nat} (hN:NW q c rows k) (h:rows.length≤k∨(((Kc q c rows k).length:Nat):Int)=q.lim):Lg q c rows []=(Kc q c rows k,0):=by
 rw [hN]
 rcases h with h|h
 ·rw [List.drop_eq_nil_of_le h];rfl
 cases rows.drop k with
 | nil=>rfl
 | cons y r=>rw [Lg,if_pos (by simpa using h)]
theorem AH5 {q:Qry} {c:List Col} {rows:List Row} {k:Nat} (hk:k<rows.length) (hN:NW q c rows k) (hl:¬(((Kc q c rows k).length:Nat):Int)=q.lim) (hr:Fb c rows[k].l=false):Lg q c rows []=([],1):=by
 rw [oa hk hN,Lg,if_neg (by simpa using hl),if_pos (by rw [hr];rfl)]
theorem AH6 {q:Qry} {c:List Col} {rows:List Row} {k:Nat} (hk:k<rows.length) (hN:NW q c rows k) (hl:¬(((Kc q c rows k).length:Nat):Int)=q.lim) (hr:Fb c rows[k].l=true) (ha:Fa q=true) (he:(Ab c rows[k].l q.whr).2≠0):Lg q c rows []=([],(Ab c rows[k].l q.whr).2):=by
 rw [oa hk hN,Lg,if_neg (by simpa using hl),if_neg (by rw [hr];decide),if_pos (by simp [ha,he])]
theorem ADn {q:Qry} {c:List Col} {rows:List Row} {k:Nat} (hk:k<rows.length) (hN:NW q c rows k) (hl:¬(((Kc q c rows k).length:Nat):Int)=q.lim) (hr:Fb c rows[k].l=true) (ha:Fa q=true) (he:(Ab c rows[k].l q.whr).2=0) (hf:Ih (Ab c rows[k].l q.whr)=false):NW q c rows (k+1):=by
 unfold NW
 rw [oa hk hN,Lg,if_neg (by simpa using hl),if_neg (by rw [hr];decide),if_neg (by simp [he]),if_pos (by simp [ha,hf]),Og hk (by simp [P3,ha,hf])]
theorem AL2 {q:Qry} {c:List Col} {rows:List Row} {k:Nat} (hk:k<rows.length) (hN:NW q c rows k) (hl:¬(((Kc q c rows k).length:Nat):Int)=q.lim) (hr:Fb c rows[k].l=true) (hf:Fa q=true→(Ab c rows[k].l q.whr).2=0∧Ih (Ab c rows[k].l q.whr)=true):NW q c rows (k+1):=by
 have hk2:P3 q c rows[k]=true:=by
  unfold P3
  by_cases ha:Fa q=true
  ·simp [(hf ha).2]
  simp [ha]
 unfold NW
 rw [oa hk hN,Lg,if_neg (by simpa using hl),if_neg (by rw [hr];decide),if_neg (by intro e;simp only [Al] at e;have:=(hf e.1).1;simp [this] at e),if_neg (by intro e;simp only [Al] at e;have:=(hf e.1).2;simp [this] at e),M7 hk hk2]
theorem R2 {r:Rs} (h:(r.1.kind != 3 || r.1.n != 1)=true):Ih r=false:=by
 unfold Ih
 simp only [bne] at h
 revert h
 cases (r.1.kind==3)<;>cases (r.1.n==1)<;>decide
theorem Lh {q:Qry} {c:List Col} {x:Row} (hf:Fa q=true→(Ab c x.l q.whr).2=0∧Ih (Ab c x.l q.whr)=true):P3 q c x=true:=by
 unfold P3
 by_cases ha:Fa q=true
 ·simp [(hf ha).2]
 simp [ha]
theorem cw {q:Qry} {c:List Col} {x:Row} (ha:Fa q=true) (hf:Ih (Ab c x.l q.whr)=false):P3 q c x=false:=by unfold P3;rw [ha,hf];rfl
theorem ADo {c:List Col} {rows:List Row} (hw:RW rows):∀x∈rows,∀v∈x.l,Fine v∨Fb c x.l=false:=fun x hx v hv=>by
 cases hr:Fb c x.l with
 | true=>exact .inl ((Wu hr (hw.each x hx).2).fine v hv)
 | false=>exact .inr rfl
theorem lx {q:Qry} {c:List Col} (h:D7 q c=0) (ha:q.all=true):q.cols=[]:=by
 unfold D7 at h
 by_cases h1:(!Dq q || !N9 c)=true
 ·rw [if_pos h1] at h;cases h
 have hr:Dq q=true:=by
  cases e:Dq q with
  | true=>rfl
  | false=>simp [e] at h1
 unfold Dq at hr
 rw [ha] at hr
 split at hr
 ·cases hr
 rename_i h2
 simp only [C7,not_or,decide_eq_true_eq] at h2
 have:=h2.1.1.1
 cases e:q.cols with
 | nil=>rfl
 | cons a l=>rw [e] at this;simp at this;omega
theorem c11 (q:Qry) (h:QW q) (c:List Col) (hc:OkCols c) (rows:List Row) (hw:RW rows) (Hp:List AObj):AFun Tryz.prog 11 [M6 q,Ce c,Hi rows] Hp (.tup [Hi (Ok q c rows).1,A5 (Ok q c rows).2]):=by
 refine Ah [.tmp 6,.tmp 7] [0,1,2] Tryz.func11 Tryz.ntmps11 (fun d=>?_)
 refine Z13 ?_;refine A2 [1,2,3] ?_;refine Z8 ?_;refine A7 Tryz.call13 (c13 q h c hc _) ?_;refine A4 ?_;refine A2 [1,2,3,8] ?_;refine Z1 ?_;refine A2 [1,2,3,8,20] ?_
 refine A3 (fun ht20=>?_) (fun ht20=>?_)
 ·have hm:Ok q c rows=([],D7 q c):=o9 (by rw [ht20];rfl)
  refine Z1 ?_;refine R.nilTmp 6 2 false ?_;refine A4 ?_;refine vj ?_;exact A8 (B4 A6 A6) ⟨by rw [hm];rfl,rfl⟩
 have hck:D7 q c=0:=by simpa using ht20
 refine Z3 ?_;refine Z45 ?_;refine Iy ?_;refine A2 [1,2,3,9] ?_;refine Z23 ?_;refine A2 [1,2,3,9,10] ?_
 refine Bh (α:=Nat) (fun x=>⟨103,A9 1 (Ce c) (A9 2 (Hi rows) (A9 3 (.ro (qoC false q)) (A9 9 (.slice true 2 ((Kc q c rows x).map Fi)) (A9 10 (A5 (x:Nat)) (fun _=>.any))))),Hp,[],[],none⟩) (fun x=>x≤rows.length∧NW q c rows x) (fun x=>rows.length-x) (0) ⟨Av _,rfl⟩ (Fq _) rfl (fun x hx=>?_)
 refine Lu ?_;refine Z6 ?_;refine Z90 ?_;refine A2 [1,2,3,9,10,33] ?_
 refine A3 (fun ht33=>?_) (fun ht33=>?_)
 ·have hlt:x<rows.length∧¬(((Kc q c rows x).length:Nat):Int)=q.lim:=by simpa using ht33
  obtain ⟨hlt,hlm⟩:=hlt
  have hxl:=hw.each _ (Br hlt)
  have hwl:=hw.len
  have hkl:=h.len
  refine Xo ?_
  refine A4 (h:=Ag (x) (Fi rows[x]) (fun _=>B7 hlt)) (hr:=?_)
  refine ju ?_;refine A2 [1,2,3,9,10,11] ?_;refine Z32 ?_;refine A7 Tryz.call21 (c21 c hc rows[x].l hxl.1 _) ?_;refine A4 ?_;refine A2 [1,2,3,9,10,11,44] ?_
  refine A3 (fun ht44=>?_) (fun ht44=>?_)
  ·have hm:=AH5 hlt hx.2 hlm (by simpa using ht44)
   refine Z2 ?_;refine R.nilTmp 6 2 false ?_;refine A4 ?_;refine vj ?_;exact AHl
  have hr:Fb c rows[x].l=true:=by simpa using ht44
  have hlen:rows[x].l.length=c.length:=(Wu hr hxl.2).len
  have hfine:∀v∈rows[x].l,Fine v:=(Wu hr hxl.2).fine
  refine Z3 ?_
  refine W.joinC ⟨103,A9 1 (Ce c) (A9 2 (Hi rows) (A9 3 (.ro (qoC false q)) (A9 9 (.slice true 2 ((Kc q c rows x).map Fi)) (A9 10 (A5 (x:Nat)) (A9 11 (.ptr (oid Hp.length 0) 0) (fun _=>.any)))))),Hp,[(.cells 46 (cv rows[x]))],[],none⟩ (Fa q=true→(Ab c rows[x].l q.whr).2=0∧Ih (Ab c rows[x].l q.whr)=true) ?_ (fun hQ=>?_)
  ·refine Z2 ?_;refine A7 Tryz.call22 (c22 q h _) ?_;refine A2 [1,2,3,9,10,11,46] ?_
   refine A3 (fun ht46=>?_) (fun ht46=>?_)
   ·refine jx ?_
    refine A7 Tryz.call23 (c23 c rows[x].l hc hlen hfine 61 q.whr h.ok (K6 (by rw [←Ds];exact (X6 hck ht46).1)) h.rng _) ?_
    refine Xn ?_;refine A2 [1,2,3,9,10,11,12,13] ?_;refine Z8 ?_;refine A2 [1,2,3,9,10,11,12,13,57] ?_
    refine A3 (fun ht57=>?_) (fun ht57=>?_)
    ·have hm:=AH6 hlt hx.2 hlm hr ht46 (by simpa using ht57)
     refine Z1 ?_;refine R.nilTmp 6 2 false ?_;refine A4 ?_;refine vj ?_;refine Ex ?_;exact AHl
    have he:(Ab c rows[x].l q.whr).2=0:=by simpa using ht57
    refine Tv ?_;refine Z90 ?_;refine A2 [1,2,3,9,10,11,66] ?_
    refine A3 (fun ht66=>?_) (fun ht66=>?_)
    ·have hN:=ADn hlt hx.2 hlm hr ht46 he (R2 ht66)
     refine Z36 ?_;refine K.blE ?_;refine Ef ?_;refine Z22 ?_;refine AEx ?_
     first|rw [Og hlt (cw ht46 (R2 ht66))]|rw [M7 hlt (Lh hQ),Cs,Qy ht71]|rw [M7 hlt (Lh hQ),Cs,Of hall]
     exact E5 (own:=[]) (fun _=>.refl _) (by repeat (first|exact C5|refine C4 (by first|exact Ld|(simp [oid,or_imp,forall_and,B2];done)) ?_)) (by simp) (by simp)
    refine Dg [1,2,3,9,10,11] ?_;refine G5 ?_
    refine K.thJC ?_ ?_
    ·exact E5 (own:=[(.cells 46 (cv rows[x]))]) (fun _=>.refl _) (by repeat (first|exact C5|refine C4 (by first|exact Ld|(simp [oid,or_imp,forall_and,B2];done)) ?_)) (by simp [ObjLow,or_imp,forall_and]) (by simp)
    intro _
    exact ⟨he,by unfold Ih;simpa using ht66⟩
   refine Dg [1,2,3,9,10,11] ?_;refine G5 ?_
   refine K.thJC ?_ ?_
   ·exact Bx rfl
   intro e
   rw [ht46] at e
   cases e
  have hN:=AL2 hlt hx.2 hlm hr hQ
  refine Z1 ?_;refine k7 ?_;refine Z16 ?_;refine A2 [1,2,3,9,10,11,14] ?_;refine Z8 ?_;refine A2 [1,2,3,9,10,11,14,71] ?_
  refine A3 (fun ht71=>?_) (fun ht71=>?_)
  ·have hnil:=lx hck ht71
   refine AAv ?_;refine A2 [1,2,3,9,10,11,14] ?_;refine Ef ?_;refine Z23 ?_;refine AB4 ?_
   refine Bh (α:=Nat) (fun i=>⟨103,A9 1 (Ce c) (A9 2 (Hi rows) (A9 3 (.ro (qoC false q)) (A9 9 (.slice true 2 ((Kc q c rows x).map Fi)) (A9 10 (A5 (x:Nat)) (A9 11 (.ptr (oid Hp.length 0) 0) (A9 14 (.ptr (oid Hp.length 1) 0) (A9 15 (A5 (i:Nat)) (fun _=>.any)))))))),Hp,[(.cells 46 (cv rows[x])),.cells 46 [A5 rows[x].key,(if q.all=true then AV.slice false 3 (rows[x].l.map B8) else AV.slice true 3 (((q.cols.take i).map (Hl c rows[x])).map B8))]],[],none⟩) (fun i=>i≤q.cols.length) (fun i=>q.cols.length-i) (0) (Av _) (Bc (by simp [ht71])) rfl (fun i hi=>?_)
   refine Lu ?_;refine A2 [1,2,3,9,10,11,14,15,79] ?_
   refine A3 (fun ht79=>?_) (fun ht79=>?_)
   ·exfalso
    have h9:=of_decide_eq_true ht79
    rw [hnil] at h9
    simp only [J6,Bb] at h9
    omega
   refine Z52 ?_;refine Hs ?_
   simp only [ht71,if_true]
   refine vz ?_
   refine Ix jU Tryz.type46 ?_ ?_ ?_
   ·have hwl:=hw.len;have:=R1 q c rows x;simp [Tryz.t46];omega
   ·have hwl:=hw.len;have:=R1 q c rows x;simp [Tryz.t46];omega
   refine Iy ?_;refine A2 [1,2,3,9,10] ?_;refine N3 ?_;refine AEx ?_
   first|rw [Og hlt (cw ht46 (R2 ht66))]|rw [M7 hlt (Lh hQ),Cs,Qy ht71]|rw [M7 hlt (Lh hQ),Cs,Of hall]
   exact E5 (own:=[]) (fun _=>.refl _) (by repeat (first|exact C5|refine C4 (by first|exact Ld|(simp [oid,or_imp,forall_and,B2];done)) ?_)) (by simp) (by simp)
  have hall:q.all=false:=ht71
  refine Z3 ?_;refine Rk ?_;refine Pa 1 1 3 ?_;refine A4 ?_;refine AB4 ?_
  refine Bh (α:=Nat) (fun i=>⟨103,A9 1 (Ce c) (A9 2 (Hi rows) (A9 3 (.ro (qoC false q)) (A9 9 (.slice true 2 ((Kc q c rows x).map Fi)) (A9 10 (A5 (x:Nat)) (A9 11 (.ptr (oid Hp.length 0) 0) (A9 14 (.ptr (oid Hp.length 1) 0) (A9 15 (A5 (i:Nat)) (fun _=>.any)))))))),Hp,[(.cells 46 (cv rows[x])),.cells 46 [A5 rows[x].key,(if q.all=true then AV.slice false 3 (rows[x].l.map B8) else AV.slice true 3 (((q.cols.take i).map (Hl c rows[x])).map B8))]],[],none⟩) (fun i=>i≤q.cols.length) (fun i=>q.cols.length-i) (0) (Av _) (Bc (by simp [ht71])) rfl (fun i hi=>?_)
  refine Lu ?_;refine A2 [1,2,3,9,10,11,14,15,79] ?_
  refine A3 (fun ht79=>?_) (fun ht79=>?_)
  ·have hlt2:i<q.cols.length:=by simpa using ht79
   obtain ⟨j,hj,hjc⟩:=o8 (Xf hck _ (Br hlt2))
   have hk:0≤Co q.cols[i] c∧(Co q.cols[i] c).toNat<rows[x].l.length:=by omega
   have hget:(rows[x].l.map B8)[(Co q.cols[i] c).toNat]? = some (B8 (Hl c rows[x] q.cols[i])):=by
    rw [C8,Aa hk.2]
    unfold Hl
    rw [D6,Aa hk.2]
    rfl
   simp only [hall,Af,if_false]
   refine Z53 ?_;refine W.drawY0 [0,1,0,4,0,0,32,0,224,480,1008,2044,4092,8188,16383,32767,65535] [1] [.q 1 [] [0],.s [83] (some 0) [] [],.q 12 [] []] (fun _=>Hp) (fun B=>[(.cells 46 (cv rows[x])),.cells 46 (if B 0=true then [A5 rows[x].key,.slice false 3 (((q.cols.take i).map (Hl c rows[x])).map B8)] else [A5 rows[x].key,.slice true 3 (((q.cols.take i).map (Hl c rows[x])).map B8)])]) Aj (by kernel_rfl) rfl rfl (fun _=>rfl) ?_
   apply Y.q
   ·intro B hT hF
    exact Z79
   case hTF=>decide
   refine Y.loadOwnT (u:=Hp.length) (n:=1) (t':=46) (cs:=[A5 rows[x].key,.slice true 3 (((q.cols.take i).map (Hl c rows[x])).map B8)]) (cs':=[A5 rows[x].key,.slice false 3 (((q.cols.take i).map (Hl c rows[x])).map B8)]) Tryz.isAgg44 (fun B hB=>⟨rfl,by simp only [hB];rfl,by simp [upd],rfl⟩) ?_
   apply Y.q
   ·intro B hT hF
    refine Z92 ?_;refine Z10 ?_
    refine An (h:=Ag (i) (Ac q.cols[i]) (fun _=>B7 hlt2)) (hr:=?_)
    refine An ?_;refine Cy Tryz.call24 (c24 c hc q.cols[i] _) ?_
    refine An (h:=Ag ((Co q.cols[i] c).toNat) (B8 (Hl c rows[x] q.cols[i])) (fun _=>hget)) (hr:=?_)
    exact AAn
   case hTF=>decide
   refine F7 (tn:=[1]) (O:=[(.cells 46 (cv rows[x])),.cells 46 [A5 rows[x].key,.slice false 3 (((q.cols.take i).map (Hl c rows[x])).map B8)]]) ?_
   refine Ix jU Tryz.type24 ?_ ?_ ?_
   ·simp only [B6,Ei,Aw,Bb,Tryz.t24];omega
   ·simp only [B6,Ei,Aw,Bb,Tryz.t24];omega
   refine A4 ?_;refine R.storeOwnT jS ?_;refine AB4 ?_;refine N3 ?_;refine AB4 ?_;refine B5 (i+1) hlt2 (by omega) ?_;exact Bx (by rw [gv hlt2,Cs];rfl)
  have hxe:q.cols.length≤i:=by simpa using ht79
  refine Z52 ?_;refine Hs ?_
  simp only [hall,Af,if_false,De hxe]
  refine vz ?_
  refine Ix jU Tryz.type46 ?_ ?_ ?_
  ·have hwl:=hw.len;have:=R1 q c rows x;simp [Tryz.t46];omega
  ·have hwl:=hw.len;have:=R1 q c rows x;simp [Tryz.t46];omega
  refine Iy ?_;refine A2 [1,2,3,9,10] ?_;refine N3 ?_;refine AEx ?_
  first|rw [Og hlt (cw ht46 (R2 ht66))]|rw [M7 hlt (Lh hQ),Cs,Qy ht71]|rw [M7 hlt (Lh hQ),Cs,Of hall]
  exact E5 (own:=[]) (fun _=>.refl _) (by repeat (first|exact C5|refine C4 (by first|exact Ld|(simp [oid,or_imp,forall_and,B2];done)) ?_)) (by simp) (by simp)
 have hend:rows.length≤x∨(((Kc q c rows x).length:Nat):Int)=q.lim:=by
  simp at ht33
  by_cases h9:x<rows.length
  ·exact .inr (ht33 h9)
  exact .inl (by omega)
 have hm:=AH4 hx.2 hend
 refine Z52 ?_;refine Z13 ?_;refine A2 [6,7] ?_;refine Eu ?_;exact AJr

theorem ADp {rows:List Row} (h:Qx rows=false) (hg:∀x∈rows,∀v∈x.l, -9223372036854775808≤v.n∧v.n≤9223372036854775807):RW rows∧rows.length≤60:=by
 unfold Qx at h
 simp only [Cv,decide_eq_false_iff_not] at h
 obtain ⟨h1,h2⟩:=h
 refine ⟨⟨by omega,fun x hx=>⟨?_,hg x hx⟩⟩,by omega⟩
 have h3:=Li.1 h2 x hx
 exact yx (by simpa using h3)
theorem tt {q:Qry} {c:List Col} {rows:List Row} (hw:RW rows) (hq:q.cols.length≤1048576) (k:Nat):∀x∈Gi q c rows k,x.l.length≤1048576:=by
 intro x hx
 unfold Gi at hx
 obtain ⟨y,hy,rfl⟩:=Du.1 hx
 have h1:=(hw.each y (Np (List.mem_filter.1 hy).1)).1
 unfold Lc
 show (if q.all=true then y.l else q.cols.map _).length≤1048576
 split
 ·exact h1
 rw [B6];exact hq
theorem Xg {q:Qry} {c:List Col} {rows:List Row}:∀(r:List Row) (k:Nat),rows.drop k=r→(Kb q c r (Gi q c rows k)).1=[]∨∃j,(Kb q c r (Gi q c rows k)).1=Gi q c rows j
 | [],k,_=>.inr ⟨k,rfl⟩
 | x::r,k,hk=>by
  have hx:rows[k]? = some x:=by
   have:(rows.drop k)[0]? = some x:=by rw [hk];rfl
   simpa using this
  have hr:rows.drop (k+1)=r:=by
   have:=R0 hx
   rw [hk] at this
   injection this with _ h
   exact h.symm
  rw [Kb]
  split
  ·exact .inl rfl
  split
  ·rename_i h1
   have e:=Qz hx h1
   split
   ·exact .inr ⟨k+1,e.symm⟩
   rw [←e];exact Xg r (k+1) hr
  rename_i h1
  rw [←Sl hx (by simpa using h1)]
  exact Xg r (k+1) hr
theorem ADq {q:Qry} {c:List Col} {rows:List Row} (hw:RW rows) (hq:q.cols.length≤1048576):(Ok q c rows).1.length≤rows.length∧∀x∈(Ok q c rows).1,x.l.length≤1048576:=by
 unfold Ok
 split
 ·exact ⟨Av _,fun x hx=>by cases hx⟩
 rcases Xg (q:=q) (c:=c) (rows:=rows) rows 0 rfl with h|⟨j,h⟩
 ·rw [show ([]:List Row)=Gi q c rows 0 from rfl,h]
  exact ⟨Av _,fun x hx=>by cases hx⟩
 rw [show ([]:List Row)=Gi q c rows 0 from rfl,h]
 exact ⟨Xe _ _ _ _,tt hw hq j⟩
theorem c3 (q:Qry) (gq:Dk Hy q.whr=true) (c:List Col) (rows:List Row) (gr:∀x∈rows,∀v∈x.l, -9223372036854775808≤v.n∧v.n≤9223372036854775807) (Hp:List AObj):AFun Tryz.prog 3 [M6 q,Ce c,Hi rows] Hp (At true):=by
 refine Ah [.tmp 6] [0,1,2] Tryz.func3 Tryz.ntmps3 (fun d=>?_)
 refine Z1 ?_;refine A2 [1,2,3] ?_;refine Rk ?_;refine A7 Tryz.call6 (c5 _) ?_;refine A4 ?_;refine A2 [1,2,3,12] ?_
 refine A3 (fun ht12=>?_) (fun ht12=>?_)
 ·cases ht12
 refine Kq ?_;refine A7 Tryz.call7 (c7 q _) ?_;refine A4 ?_;refine B3 ?_;refine Bw Tryz.call8 (fun hB=>ALy c _) ?_;refine N4 ?_;refine Bw Tryz.call9 (fun hB=>c9 rows _) ?_;refine A4 ?_;refine A2 [1,2,3,22] ?_
 refine A3 (fun ht22=>?_) (fun ht22=>?_)
 ·refine pv ?_;refine Z9 ?_;exact wh
 simp only [Cv] at ht22
 have hq:=AL0 ht22.1.1 gq
 have hc:=ABo ht22.1.2
 obtain ⟨hw,hl60⟩:=ADp ht22.2 gr
 have hfa:(Ok q c rows).1.length≤1048576∧∀x∈(Ok q c rows).1,x.l.length≤1048576:=by
  have h:=ADq (q:=q) (c:=c) hw hq.len
  exact ⟨by omega,h.2⟩
 refine Oh ?_;refine A7 Tryz.call10 (c10 q hq c hc rows hw _) ?_;refine Z86 ?_;refine A2 [1,2,3,7,8] ?_;refine Z13 ?_;refine A7 Tryz.call11 (c11 q hq c hc rows hw _) ?_;refine Z86 ?_;refine A2 [1,3,7,8,9,10] ?_;refine Ct [0,0,3,0,0,31,63,127,255,255,1023,2047,4095,8191,8191,32767,65535,131071] 15 Aj (by kernel_rfl) ?_;refine Z10 ?_;refine Cy Tryz.call12 (c12 q hq c hc _) ?_;refine Z10 ?_;refine Cy Tryz.call13 (c13 q hq c hc _) ?_;refine Z10 ?_;refine Z72 ?_;refine Ga ?_;refine Z10 ?_;refine Z72 ?_;refine Ee ?_;refine Bw Tryz.call14 (fun hB=>c14 (Ok q c rows).1 (Ok q c rows).1 hfa.1 hfa.2 _) ?_;refine Z0 ?_;refine Ts ?_
 first|exact A8 (Ai A6) ⟨by simp,rfl⟩|exact A8 (Ai A6)

end Go.SX.Nb
namespace Go.Proofs.YtfngkblpcigciaaGreatDoor
open Go Go.SX Go.SX.Nb Go.ChangeShapes Go.RowKit
set_option maxRecDepth 100000
theorem tw:Tryz.pinned.checked.prog.funcNamed Rows.queryRunsRow.func=some 3:=by kernel_rfl
theorem ADr:laidOutB Tryz.pinned.checked.prog=true:=by kernel_rfl
theorem ADs:(Rows.queryRunsRow.inPlace==Tryz.pinned.checked.prog.inPlace 3)=true:=by kernel_rfl
theorem ADt:(Rows.queryRunsRow.unfollowed==Tryz.pinned.checked.prog.unfollowed 3)=true:=by kernel_rfl
theorem ADu:(Rows.queryRunsRow.recurses==Tryz.pinned.checked.prog.recurses 3)=true:=by kernel_rfl
theorem ADv:(Rows.queryRunsRow.named==Tryz.pinned.checked.prog.varsNamed 3)=true:=by kernel_rfl
theorem ADw:Tryz.pinned.checked.prog.mayEnter=true:=by kernel_rfl
theorem lz:joinedFacts Tryz.pinned.checked.prog 3 Tryz.f3 (OpenSpec.ofChange Rows.queryRunsSpec).bare Rows.queryRunsRow=true:=by
 unfold joinedFacts
 rw [ADr,ADs,ADt,ADu,ADv,ADw]
 kernel_rfl
theorem tx:false=Rows.queryRunsRow.goesBy Tryz.pinned.checked.prog:=by kernel_rfl
theorem tz:Tryz.f3.isInstance Tryz.pinned.checked.prog Rows.queryRunsRow.origin Rows.queryRunsRow.targs:=of_decide_eq_true (by kernel_rfl)
theorem u1:Tryz.f3.isWrapper Tryz.pinned.checked.prog Rows.queryRunsRow.wrapper Rows.queryRunsRow.mainSum:=by
 unfold Func.isWrapper
 first|(rw [if_pos (by decide +kernel)];kernel_rfl)|(rw [if_neg (by decide +kernel)];exact ⟨rfl,rfl⟩)
end Go.Proofs.YtfngkblpcigciaaGreatDoor
