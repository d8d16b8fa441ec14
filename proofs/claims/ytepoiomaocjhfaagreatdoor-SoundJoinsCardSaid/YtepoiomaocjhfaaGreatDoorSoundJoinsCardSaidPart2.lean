/- Texts on the way to this: SoundJoins answers true for whatever it is handed: moves that are sound over columns, and others that are sound over what is behind those, are sound all together and lead to the same columns, unless they are too many. (part 2) -/
import Derived.Attr
import GoSem.Builtin.Min
import GoSem.Builtin.Max
import Derived.Lib.UnsafeStr
import Derived.Laws.BytesString
import Derived.Test.YtepoiomaocjhfaaGreatDoorSoundJoinsCardSaidPart1
set_option linter.all false
namespace Go.SX
variable [GI : GlobInv]
open Classical

variable {A B C b want : Bool} {args cs cs' xs ys zs : List AV} {c hi p x : Operand} {e ft t t' u : TypeId} {f : Field} {fo g i j k o off off' : Nat} {fs : Array Field} {kh q : IntKind} {l : List UInt8} {m n : Int} {oj : Oper} {parts : List (Nat × Operand)} {r r' y y' y1 y2 z : AV} {r1 r2 : ResultVar}
def oid (n i : Nat) : Nat := n + i

theorem Tj (d : Nat) (y : AV) (f : Nat → AV) (s : Nat) : A5 d y f s = if s = d then y else f s := rfl
theorem X0 (f : Nat → AV) : Gp [] f = fun _ => .any := rfl
theorem Tk (s : Nat) (l : List Nat) (f : Nat → AV) : Gp (s :: l) f = A5 s (f s) (Gp l f) := rfl
theorem R6 (l : List AV) (s : Nat) : argsF l s = l.getD s (.v undef) := rfl
theorem X1 (s : Nat) (d : AV) : ([] : List AV).getD s d = d := rfl
theorem Tl (x : AV) (l : List AV) (d : AV) : (x :: l).getD 0 d = x := rfl
theorem Tm (x : AV) (l : List AV) (s : Nat) (d : AV) : (x :: l).getD (s + 1) d = l.getD s d := rfl
theorem X2 (cs : List AV) : (AV.agg cs).cells = cs := rfl
theorem eh (x : Value) : (AV.v x).cells = [.v x] := rfl
theorem X3 : AV.nil.cells = [.nil] := rfl
theorem R7 (o : Bool) (k : Nat) (xs : List AV) : (AV.slice o k xs).cells = [.slice o k xs] := rfl
theorem X4 (o off : Nat) : (AV.ptr o off).cells = [.ptr o off] := rfl
theorem Zy (f : Fn) (a c : List AV) : (AV.fn f a c).cells = [.fn f a c] := rfl
theorem R8 (o : Nat) : (AV.yield o).cells = [.yield o] := rfl
theorem Tn (cs : Array Value) : (Value.agg cs).cells = cs := rfl
theorem To (k : IntKind) (n : Int) : (Value.int k n).cells = #[.int k n] := rfl
theorem R9 (b : Bool) : (Value.bool b).cells = #[.bool b] := rfl
theorem Nx (b : ByteArray) : (Value.string b).cells = #[.string b] := rfl
theorem Pw (a : Option Addr) (n c : Nat) : (Value.slice a n c).cells = #[.slice a n c] := rfl
theorem M3 : (Value.nilFunc).cells = #[.nilFunc] := rfl
theorem M4 (a : Option Addr) : (Value.pointer a).cells = #[.pointer a] := rfl
theorem Lm : (Value.nilIface).cells = #[.nilIface] := rfl
theorem mp (x : Value) : (AV.v x).one = x.oneCell' := rfl
theorem ej : AV.nil.one = true := rfl
theorem X5 (o : Bool) (k : Nat) (xs : List AV) : (AV.slice o k xs).one = true := rfl
theorem ek (o off : Nat) : (AV.ptr o off).one = true := rfl
theorem jx (f : Fn) (a c : List AV) : (AV.fn f a c).one = true := rfl
theorem X6 (o : Nat) : (AV.yield o).one = true := rfl
theorem X7 (t : TypeId) (x : AV) : (AV.iface t x).one = true := rfl
theorem Zz (k : IntKind) (n : Int) : (Value.int k n).oneCell' = true := rfl
theorem X8 (b : Bool) : (Value.bool b).oneCell' = true := rfl
theorem Ra (b : ByteArray) : (Value.string b).oneCell' = true := rfl
theorem Px : (Value.nilFunc).oneCell' = true := rfl
theorem Py (a : Option Addr) : (Value.pointer a).oneCell' = true := rfl
theorem Ny : (Value.nilIface).oneCell' = true := rfl
theorem Rb (cs : List AV) (off : Nat) (ys : List AV) : Ax cs off ys = cs.take off ++ (ys ++ cs.drop (off + ys.length)) := List.append_assoc _ _ _
theorem btt : (true == true) = true := rfl
theorem bff : (false == false) = true := rfl
theorem btf : (true == false) = false := rfl
theorem bft : (false == true) = false := rfl
attribute [go_sem] Tj X0 Tk R6 X1 Tl Tm Zt Te Wt Qy Ps Lz Qz Lk K7 Ll
attribute [go_sem] eg Wu Wv Ww Wx R0 Zu Wy Zv R1 R2 Wz Qx Of
attribute [go_sem] X2 eh X3 R7 X4 Zy R8 Tn To R9 Nx Pw M3 M4 Lm
attribute [go_sem] mp ej X5 ek jx X6 X7 Zz X8 Ra Px Py Ny Rb
attribute [go_sem] List.length_set List.map_cons List.map_nil List.toList_toArray List.cons_append List.nil_append List.append_nil List.take_succ_cons List.take_zero List.take_nil List.drop_succ_cons List.drop_zero List.drop_nil List.length_cons List.length_nil Nat.zero_add Nat.add_zero
attribute [go_sem] List.set_cons_zero List.set_cons_succ List.all_cons List.all_nil Bool.and_self Bool.and_true Bool.true_and btt bff btf bft

/-- A value that is there where c holds. -/
inductive Ug (c : Bool) : AV → AV → Prop
 | g (y : AV) : Ug c (gAV c y) y
 | same (y : AV) : Ug c y y
 | g1 (b d : Bool) (y : AV) (h : c = (b && d)) : Ug c (gAV b y) y
 | g2 (b d e : Bool) (y : AV) (h : c = ((b && d) && e)) : Ug c (gAV b y) y
theorem Ug.out {c : Bool} {x y : AV} (h : Ug c x y) (hc : c = true) : x = y := by
 subst hc
 cases h with
 | g => rfl
 | same => rfl
 | g1 b d _ h => cases b <;> simp_all
 | g2 b d e _ h => cases b <;> simp_all
inductive UgL (c : Bool) : List AV → List AV → Prop
 | nil : UgL c [] []
 | cons {x y : AV} {xs ys : List AV} (h : Ug c x y) (t : UgL c xs ys) : UgL c (x :: xs) (y :: ys)
theorem UgL.out {c : Bool} {xs ys : List AV} (h : UgL c xs ys) (hc : c = true) : xs = ys := by
 induction h with
 | nil => rfl
 | cons h t ih => rw [h.out hc, ih]

theorem agr {l : List Oper} {o : Oper} {f fr : Nat → AV} {x : Operand} (hf : ∀ t ∈ lk l o, f t = fr t) (hm : x ∈ o.op.operands.toList) : A8 f x = A8 fr x := by
 cases x with
 | tmp t =>
  show (f t).strip = (fr t).strip
  rw [hf t]
  unfold lk Pu
  exact List.mem_append_left _ (List.mem_filterMap.2 ⟨_, hm, rfl⟩)
 | const v => rfl
 | global g => rfl
 | func g => rfl

variable {P : Program} {d : Nat} {l0 : List Oper} {kd : Nat} {ops : Array Oper} {rest : List Oper} {sz : Nat} {fr fr' : Nat → AV} {up own own' up' : List AObj} {dfs : List Nat} {rnd : Option Nat} {Q : St → Prop} {E : List Oper → (Nat → AV) → Prop} {s : Nat} {ty : TypeId} {pos : String} {aft : Array Edge}

theorem R.move (hr : ARun P d ops rest ⟨sz, A5 s (y) fr, up, own, dfs, rnd⟩ Q) (hx : A8 fr x = y := by exact sL0)  (hs : Nat.blt s sz = true := by rfl) :
  ARun P d ops (⟨some s, .move x, ty, pos, aft, none⟩ :: rest) ⟨sz, fr, up, own, dfs, rnd⟩ Q :=
 ARun.vv rfl rfl hs (OpV.move hx) hr
theorem D.move (hr : ADraw P d l0 sz up own dfs rnd E kd rest (A5 s (y) fr)) (hx : A8 fr x = y := by exact sL0)  (hs : Nat.blt s sz = true := by rfl) :
  ADraw P d l0 sz up own dfs rnd E (kd + 1) (⟨some s, .move x, ty, pos, aft, none⟩ :: rest) fr :=
 ⟨s, _, rfl, by simpa using hs, fun f0 hag => (OpV.move ((agr hag (by simp [Op.operands, Call.operands])).trans hx)), hr⟩
theorem G.move (hr : ARun P d ops rest ⟨sz, A5 s (gAV C (y)) fr, up, own, dfs, rnd⟩ Q) (hj : ops[j]? = some oj := by rfl) (hdj : oj.dst = some g := by rfl) (hgs : GIs (fr g) want C := by exact sL2) (hx : Ug C (A8 fr x) (y) := by exact sL1)  (hs : Nat.blt s sz = true := by rfl) :
  ARun P d ops (⟨some s, .move x, ty, pos, aft, some (j, want)⟩ :: rest) ⟨sz, fr, up, own, dfs, rnd⟩ Q :=
 ARun.guardC rfl hj hdj hgs rfl hs (fun hB => (OpV.move (hx.out hB))) hr
theorem R.assign (hr : ARun P d ops rest ⟨sz, A5 s (y) fr, up, own, dfs, rnd⟩ Q) (hx : A8 fr x = y := by exact sL0)  (hs : Nat.blt s sz = true := by rfl) :
  ARun P d ops (⟨some s, .assign x, ty, pos, aft, none⟩ :: rest) ⟨sz, fr, up, own, dfs, rnd⟩ Q :=
 ARun.vv rfl rfl hs (OpV.assign hx) hr
theorem D.assign (hr : ADraw P d l0 sz up own dfs rnd E kd rest (A5 s (y) fr)) (hx : A8 fr x = y := by exact sL0)  (hs : Nat.blt s sz = true := by rfl) :
  ADraw P d l0 sz up own dfs rnd E (kd + 1) (⟨some s, .assign x, ty, pos, aft, none⟩ :: rest) fr :=
 ⟨s, _, rfl, by simpa using hs, fun f0 hag => (OpV.assign ((agr hag (by simp [Op.operands, Call.operands])).trans hx)), hr⟩
theorem R.not (hr : ARun P d ops rest ⟨sz, A5 s (.v (.bool (!b))) fr, up, own, dfs, rnd⟩ Q) (hx : A8 fr x = .v (.bool b) := by exact sL0)  (hs : Nat.blt s sz = true := by rfl) :
  ARun P d ops (⟨some s, .unOp .not t x, ty, pos, aft, none⟩ :: rest) ⟨sz, fr, up, own, dfs, rnd⟩ Q :=
 ARun.vv rfl rfl hs (OpV.not hx) hr
theorem D.not (hr : ADraw P d l0 sz up own dfs rnd E kd rest (A5 s (.v (.bool (!b))) fr)) (hx : A8 fr x = .v (.bool b) := by exact sL0)  (hs : Nat.blt s sz = true := by rfl) :
  ADraw P d l0 sz up own dfs rnd E (kd + 1) (⟨some s, .unOp .not t x, ty, pos, aft, none⟩ :: rest) fr :=
 ⟨s, _, rfl, by simpa using hs, fun f0 hag => (OpV.not ((agr hag (by simp [Op.operands, Call.operands])).trans hx)), hr⟩
theorem G.not (hr : ARun P d ops rest ⟨sz, A5 s (gAV C (.v (.bool (!b)))) fr, up, own, dfs, rnd⟩ Q) (hj : ops[j]? = some oj := by rfl) (hdj : oj.dst = some g := by rfl) (hgs : GIs (fr g) want C := by exact sL2) (hx : Ug C (A8 fr x) (.v (.bool b)) := by exact sL1)  (hs : Nat.blt s sz = true := by rfl) :
  ARun P d ops (⟨some s, .unOp .not t x, ty, pos, aft, some (j, want)⟩ :: rest) ⟨sz, fr, up, own, dfs, rnd⟩ Q :=
 ARun.guardC rfl hj hdj hgs rfl hs (fun hB => (OpV.not (hx.out hB))) hr
theorem R.sub {y : Operand} {k : IntKind} (hr : ARun P d ops rest ⟨sz, A5 s (.v (.int k (k.wrap (m - n)))) fr, up, own, dfs, rnd⟩ Q) (hx : A8 fr x = .v (.int k m) := by exact sL0) (hy : A8 fr y = .v (.int k n) := by exact sL0)  (hs : Nat.blt s sz = true := by rfl) :
  ARun P d ops (⟨some s, .binOp .sub t x y u, ty, pos, aft, none⟩ :: rest) ⟨sz, fr, up, own, dfs, rnd⟩ Q :=
 ARun.vv rfl rfl hs (OpV.sub hx hy) hr
theorem R.add64 {y : Operand} (hr : ARun P d ops rest ⟨sz, A5 s (.v (.int .i64 (m + n))) fr, up, own, dfs, rnd⟩ Q) (hx : A8 fr x = .v (.int .i64 m) := by exact sL0) (hy : A8 fr y = .v (.int .i64 n) := by exact sL0) (h1 : -9223372036854775808 ≤ m + n := by omega) (h2 : m + n ≤ 9223372036854775807 := by omega) (hs : Nat.blt s sz = true := by rfl) :
  ARun P d ops (⟨some s, .binOp .add t x y u, ty, pos, aft, none⟩ :: rest) ⟨sz, fr, up, own, dfs, rnd⟩ Q :=
 ARun.vv rfl rfl hs (OpV.add64 hx hy h1 h2) hr
theorem R.sub64 {y : Operand} (hr : ARun P d ops rest ⟨sz, A5 s (.v (.int .i64 (m - n))) fr, up, own, dfs, rnd⟩ Q) (hx : A8 fr x = .v (.int .i64 m) := by exact sL0) (hy : A8 fr y = .v (.int .i64 n) := by exact sL0) (h1 : -9223372036854775808 ≤ m - n := by omega) (h2 : m - n ≤ 9223372036854775807 := by omega) (hs : Nat.blt s sz = true := by rfl) :
  ARun P d ops (⟨some s, .binOp .sub t x y u, ty, pos, aft, none⟩ :: rest) ⟨sz, fr, up, own, dfs, rnd⟩ Q :=
 ARun.vv rfl rfl hs (OpV.sub64 hx hy h1 h2) hr
theorem G.sub64 {y : Operand} (hr : ARun P d ops rest ⟨sz, A5 s (gAV C (.v (.int .i64 (m - n)))) fr, up, own, dfs, rnd⟩ Q) (hj : ops[j]? = some oj := by rfl) (hdj : oj.dst = some g := by rfl) (hgs : GIs (fr g) want C := by exact sL2) (hx : Ug C (A8 fr x) (.v (.int .i64 m)) := by exact sL1) (hy : Ug C (A8 fr y) (.v (.int .i64 n)) := by exact sL1) (h1 : C = true → -9223372036854775808 ≤ m - n := by intro hB; omega) (h2 : C = true → m - n ≤ 9223372036854775807 := by intro hB; omega) (hs : Nat.blt s sz = true := by rfl) :
  ARun P d ops (⟨some s, .binOp .sub t x y u, ty, pos, aft, some (j, want)⟩ :: rest) ⟨sz, fr, up, own, dfs, rnd⟩ Q :=
 ARun.guardC rfl hj hdj hgs rfl hs (fun hB => (OpV.sub64 (hx.out hB) (hy.out hB) (h1 hB) (h2 hB))) hr
theorem R.lss {y : Operand} {k : IntKind} (hr : ARun P d ops rest ⟨sz, A5 s (.v (.bool (decide (m < n)))) fr, up, own, dfs, rnd⟩ Q) (hx : A8 fr x = .v (.int k m) := by exact sL0) (hy : A8 fr y = .v (.int k n) := by exact sL0)  (hs : Nat.blt s sz = true := by rfl) :
  ARun P d ops (⟨some s, .binOp .lss t x y u, ty, pos, aft, none⟩ :: rest) ⟨sz, fr, up, own, dfs, rnd⟩ Q :=
 ARun.vv rfl rfl hs (OpV.lss hx hy) hr
theorem G.lss {y : Operand} {k : IntKind} (hr : ARun P d ops rest ⟨sz, A5 s (gAV C (.v (.bool (decide (m < n))))) fr, up, own, dfs, rnd⟩ Q) (hj : ops[j]? = some oj := by rfl) (hdj : oj.dst = some g := by rfl) (hgs : GIs (fr g) want C := by exact sL2) (hx : Ug C (A8 fr x) (.v (.int k m)) := by exact sL1) (hy : Ug C (A8 fr y) (.v (.int k n)) := by exact sL1)  (hs : Nat.blt s sz = true := by rfl) :
  ARun P d ops (⟨some s, .binOp .lss t x y u, ty, pos, aft, some (j, want)⟩ :: rest) ⟨sz, fr, up, own, dfs, rnd⟩ Q :=
 ARun.guardC rfl hj hdj hgs rfl hs (fun hB => (OpV.lss (hx.out hB) (hy.out hB))) hr
theorem R.leq {y : Operand} {k : IntKind} (hr : ARun P d ops rest ⟨sz, A5 s (.v (.bool (decide (m ≤ n)))) fr, up, own, dfs, rnd⟩ Q) (hx : A8 fr x = .v (.int k m) := by exact sL0) (hy : A8 fr y = .v (.int k n) := by exact sL0)  (hs : Nat.blt s sz = true := by rfl) :
  ARun P d ops (⟨some s, .binOp .leq t x y u, ty, pos, aft, none⟩ :: rest) ⟨sz, fr, up, own, dfs, rnd⟩ Q :=
 ARun.vv rfl rfl hs (OpV.leq hx hy) hr
theorem G.leq {y : Operand} {k : IntKind} (hr : ARun P d ops rest ⟨sz, A5 s (gAV C (.v (.bool (decide (m ≤ n))))) fr, up, own, dfs, rnd⟩ Q) (hj : ops[j]? = some oj := by rfl) (hdj : oj.dst = some g := by rfl) (hgs : GIs (fr g) want C := by exact sL2) (hx : Ug C (A8 fr x) (.v (.int k m)) := by exact sL1) (hy : Ug C (A8 fr y) (.v (.int k n)) := by exact sL1)  (hs : Nat.blt s sz = true := by rfl) :
  ARun P d ops (⟨some s, .binOp .leq t x y u, ty, pos, aft, some (j, want)⟩ :: rest) ⟨sz, fr, up, own, dfs, rnd⟩ Q :=
 ARun.guardC rfl hj hdj hgs rfl hs (fun hB => (OpV.leq (hx.out hB) (hy.out hB))) hr
theorem R.gtr {y : Operand} {k : IntKind} (hr : ARun P d ops rest ⟨sz, A5 s (.v (.bool (decide (n < m)))) fr, up, own, dfs, rnd⟩ Q) (hx : A8 fr x = .v (.int k m) := by exact sL0) (hy : A8 fr y = .v (.int k n) := by exact sL0)  (hs : Nat.blt s sz = true := by rfl) :
  ARun P d ops (⟨some s, .binOp .gtr t x y u, ty, pos, aft, none⟩ :: rest) ⟨sz, fr, up, own, dfs, rnd⟩ Q :=
 ARun.vv rfl rfl hs (OpV.gtr hx hy) hr
theorem G.gtr {y : Operand} {k : IntKind} (hr : ARun P d ops rest ⟨sz, A5 s (gAV C (.v (.bool (decide (n < m))))) fr, up, own, dfs, rnd⟩ Q) (hj : ops[j]? = some oj := by rfl) (hdj : oj.dst = some g := by rfl) (hgs : GIs (fr g) want C := by exact sL2) (hx : Ug C (A8 fr x) (.v (.int k m)) := by exact sL1) (hy : Ug C (A8 fr y) (.v (.int k n)) := by exact sL1)  (hs : Nat.blt s sz = true := by rfl) :
  ARun P d ops (⟨some s, .binOp .gtr t x y u, ty, pos, aft, some (j, want)⟩ :: rest) ⟨sz, fr, up, own, dfs, rnd⟩ Q :=
 ARun.guardC rfl hj hdj hgs rfl hs (fun hB => (OpV.gtr (hx.out hB) (hy.out hB))) hr
theorem R.geq {y : Operand} {k : IntKind} (hr : ARun P d ops rest ⟨sz, A5 s (.v (.bool (decide (n ≤ m)))) fr, up, own, dfs, rnd⟩ Q) (hx : A8 fr x = .v (.int k m) := by exact sL0) (hy : A8 fr y = .v (.int k n) := by exact sL0)  (hs : Nat.blt s sz = true := by rfl) :
  ARun P d ops (⟨some s, .binOp .geq t x y u, ty, pos, aft, none⟩ :: rest) ⟨sz, fr, up, own, dfs, rnd⟩ Q :=
 ARun.vv rfl rfl hs (OpV.geq hx hy) hr
theorem G.geq {y : Operand} {k : IntKind} (hr : ARun P d ops rest ⟨sz, A5 s (gAV C (.v (.bool (decide (n ≤ m))))) fr, up, own, dfs, rnd⟩ Q) (hj : ops[j]? = some oj := by rfl) (hdj : oj.dst = some g := by rfl) (hgs : GIs (fr g) want C := by exact sL2) (hx : Ug C (A8 fr x) (.v (.int k m)) := by exact sL1) (hy : Ug C (A8 fr y) (.v (.int k n)) := by exact sL1)  (hs : Nat.blt s sz = true := by rfl) :
  ARun P d ops (⟨some s, .binOp .geq t x y u, ty, pos, aft, some (j, want)⟩ :: rest) ⟨sz, fr, up, own, dfs, rnd⟩ Q :=
 ARun.guardC rfl hj hdj hgs rfl hs (fun hB => (OpV.geq (hx.out hB) (hy.out hB))) hr
theorem R.eql {y : Operand} {k : IntKind} (hr : ARun P d ops rest ⟨sz, A5 s (.v (.bool (m == n))) fr, up, own, dfs, rnd⟩ Q) (hx : A8 fr x = .v (.int k m) := by exact sL0) (hy : A8 fr y = .v (.int k n) := by exact sL0)  (hs : Nat.blt s sz = true := by rfl) :
  ARun P d ops (⟨some s, .binOp .eql t x y u, ty, pos, aft, none⟩ :: rest) ⟨sz, fr, up, own, dfs, rnd⟩ Q :=
 ARun.vv rfl rfl hs (OpV.eql hx hy) hr
theorem G.eql {y : Operand} {k : IntKind} (hr : ARun P d ops rest ⟨sz, A5 s (gAV C (.v (.bool (m == n)))) fr, up, own, dfs, rnd⟩ Q) (hj : ops[j]? = some oj := by rfl) (hdj : oj.dst = some g := by rfl) (hgs : GIs (fr g) want C := by exact sL2) (hx : Ug C (A8 fr x) (.v (.int k m)) := by exact sL1) (hy : Ug C (A8 fr y) (.v (.int k n)) := by exact sL1)  (hs : Nat.blt s sz = true := by rfl) :
  ARun P d ops (⟨some s, .binOp .eql t x y u, ty, pos, aft, some (j, want)⟩ :: rest) ⟨sz, fr, up, own, dfs, rnd⟩ Q :=
 ARun.guardC rfl hj hdj hgs rfl hs (fun hB => (OpV.eql (hx.out hB) (hy.out hB))) hr
theorem H.eql {y : Operand} {k : IntKind} (hr : ADraw P d l0 sz up own dfs rnd E kd rest (A5 s (gAV C (.v (.bool (m == n)))) fr)) (hj : l0[j]? = some oj := by rfl) (hdj : oj.dst = some g := by rfl) (hgs : GIs (fr g) want C := by exact sL2) (hx : Ug C (A8 fr x) (.v (.int k m)) := by exact sL1) (hy : Ug C (A8 fr y) (.v (.int k n)) := by exact sL1)  (hs : Nat.blt s sz = true := by rfl) :
  ADraw P d l0 sz up own dfs rnd E (kd + 1) (⟨some s, .binOp .eql t x y u, ty, pos, aft, some (j, want)⟩ :: rest) fr :=
 ⟨s, _, rfl, by simpa using hs, ⟨oj, g, C, _, hj, hdj, hgs, rfl, fun hB f0 hag => (OpV.eql ((agr hag (by simp [Op.operands, Call.operands])).trans (hx.out hB)) ((agr hag (by simp [Op.operands, Call.operands])).trans (hy.out hB)))⟩, hr⟩
theorem R.neq {y : Operand} {k : IntKind} (hr : ARun P d ops rest ⟨sz, A5 s (.v (.bool (m != n))) fr, up, own, dfs, rnd⟩ Q) (hx : A8 fr x = .v (.int k m) := by exact sL0) (hy : A8 fr y = .v (.int k n) := by exact sL0)  (hs : Nat.blt s sz = true := by rfl) :
  ARun P d ops (⟨some s, .binOp .neq t x y u, ty, pos, aft, none⟩ :: rest) ⟨sz, fr, up, own, dfs, rnd⟩ Q :=
 ARun.vv rfl rfl hs (OpV.neq hx hy) hr
theorem G.neq {y : Operand} {k : IntKind} (hr : ARun P d ops rest ⟨sz, A5 s (gAV C (.v (.bool (m != n)))) fr, up, own, dfs, rnd⟩ Q) (hj : ops[j]? = some oj := by rfl) (hdj : oj.dst = some g := by rfl) (hgs : GIs (fr g) want C := by exact sL2) (hx : Ug C (A8 fr x) (.v (.int k m)) := by exact sL1) (hy : Ug C (A8 fr y) (.v (.int k n)) := by exact sL1)  (hs : Nat.blt s sz = true := by rfl) :
  ARun P d ops (⟨some s, .binOp .neq t x y u, ty, pos, aft, some (j, want)⟩ :: rest) ⟨sz, fr, up, own, dfs, rnd⟩ Q :=
 ARun.guardC rfl hj hdj hgs rfl hs (fun hB => (OpV.neq (hx.out hB) (hy.out hB))) hr
theorem R.seql {y : Operand} {m n : List UInt8} (hr : ARun P d ops rest ⟨sz, A5 s (.v (.bool (m == n))) fr, up, own, dfs, rnd⟩ Q) (hx : A8 fr x = .v (sv m) := by exact sL0) (hy : A8 fr y = .v (sv n) := by exact sL0)  (hs : Nat.blt s sz = true := by rfl) :
  ARun P d ops (⟨some s, .binOp .eql t x y u, ty, pos, aft, none⟩ :: rest) ⟨sz, fr, up, own, dfs, rnd⟩ Q :=
 ARun.vv rfl rfl hs (OpV.seql hx hy) hr
theorem G.seql {y : Operand} {m n : List UInt8} (hr : ARun P d ops rest ⟨sz, A5 s (gAV C (.v (.bool (m == n)))) fr, up, own, dfs, rnd⟩ Q) (hj : ops[j]? = some oj := by rfl) (hdj : oj.dst = some g := by rfl) (hgs : GIs (fr g) want C := by exact sL2) (hx : Ug C (A8 fr x) (.v (sv m)) := by exact sL1) (hy : Ug C (A8 fr y) (.v (sv n)) := by exact sL1)  (hs : Nat.blt s sz = true := by rfl) :
  ARun P d ops (⟨some s, .binOp .eql t x y u, ty, pos, aft, some (j, want)⟩ :: rest) ⟨sz, fr, up, own, dfs, rnd⟩ Q :=
 ARun.guardC rfl hj hdj hgs rfl hs (fun hB => (OpV.seql (hx.out hB) (hy.out hB))) hr
theorem H.seql {y : Operand} {m n : List UInt8} (hr : ADraw P d l0 sz up own dfs rnd E kd rest (A5 s (gAV C (.v (.bool (m == n)))) fr)) (hj : l0[j]? = some oj := by rfl) (hdj : oj.dst = some g := by rfl) (hgs : GIs (fr g) want C := by exact sL2) (hx : Ug C (A8 fr x) (.v (sv m)) := by exact sL1) (hy : Ug C (A8 fr y) (.v (sv n)) := by exact sL1)  (hs : Nat.blt s sz = true := by rfl) :
  ADraw P d l0 sz up own dfs rnd E (kd + 1) (⟨some s, .binOp .eql t x y u, ty, pos, aft, some (j, want)⟩ :: rest) fr :=
 ⟨s, _, rfl, by simpa using hs, ⟨oj, g, C, _, hj, hdj, hgs, rfl, fun hB f0 hag => (OpV.seql ((agr hag (by simp [Op.operands, Call.operands])).trans (hx.out hB)) ((agr hag (by simp [Op.operands, Call.operands])).trans (hy.out hB)))⟩, hr⟩
theorem R.sneq {y : Operand} {m n : List UInt8} (hr : ARun P d ops rest ⟨sz, A5 s (.v (.bool (!(m == n)))) fr, up, own, dfs, rnd⟩ Q) (hx : A8 fr x = .v (sv m) := by exact sL0) (hy : A8 fr y = .v (sv n) := by exact sL0)  (hs : Nat.blt s sz = true := by rfl) :
  ARun P d ops (⟨some s, .binOp .neq t x y u, ty, pos, aft, none⟩ :: rest) ⟨sz, fr, up, own, dfs, rnd⟩ Q :=
 ARun.vv rfl rfl hs (OpV.sneq hx hy) hr
theorem G.sneq {y : Operand} {m n : List UInt8} (hr : ARun P d ops rest ⟨sz, A5 s (gAV C (.v (.bool (!(m == n))))) fr, up, own, dfs, rnd⟩ Q) (hj : ops[j]? = some oj := by rfl) (hdj : oj.dst = some g := by rfl) (hgs : GIs (fr g) want C := by exact sL2) (hx : Ug C (A8 fr x) (.v (sv m)) := by exact sL1) (hy : Ug C (A8 fr y) (.v (sv n)) := by exact sL1)  (hs : Nat.blt s sz = true := by rfl) :
  ARun P d ops (⟨some s, .binOp .neq t x y u, ty, pos, aft, some (j, want)⟩ :: rest) ⟨sz, fr, up, own, dfs, rnd⟩ Q :=
 ARun.guardC rfl hj hdj hgs rfl hs (fun hB => (OpV.sneq (hx.out hB) (hy.out hB))) hr
theorem G.bneq {y : Operand} {m n : Bool} (ht : P.underlying t = some .bool) (hr : ARun P d ops rest ⟨sz, A5 s (gAV C (.v (.bool (!(m == n))))) fr, up, own, dfs, rnd⟩ Q) (hj : ops[j]? = some oj := by rfl) (hdj : oj.dst = some g := by rfl) (hgs : GIs (fr g) want C := by exact sL2) (hx : Ug C (A8 fr x) (.v (.bool m)) := by exact sL1) (hy : Ug C (A8 fr y) (.v (.bool n)) := by exact sL1)  (hs : Nat.blt s sz = true := by rfl) :
  ARun P d ops (⟨some s, .binOp .neq t x y u, ty, pos, aft, some (j, want)⟩ :: rest) ⟨sz, fr, up, own, dfs, rnd⟩ Q :=
 ARun.guardC rfl hj hdj hgs rfl hs (fun hB => (OpV.bneq ht (hx.out hB) (hy.out hB))) hr
theorem R.sadd {y : Operand} {m n : List UInt8} (hr : ARun P d ops rest ⟨sz, A5 s (.v (sv (m ++ n))) fr, up, own, dfs, rnd⟩ Q) (hx : A8 fr x = .v (sv m) := by exact sL0) (hy : A8 fr y = .v (sv n) := by exact sL0) (hl : m.length + n.length ≤ 9223372036854775807 := by simp only [List.length_append, List.length_cons, List.length_nil]; omega) (hs : Nat.blt s sz = true := by rfl) :
  ARun P d ops (⟨some s, .binOp .add t x y u, ty, pos, aft, none⟩ :: rest) ⟨sz, fr, up, own, dfs, rnd⟩ Q :=
 ARun.vv rfl rfl hs (OpV.sadd hx hy hl) hr
theorem G.sadd {y : Operand} {m n : List UInt8} (hr : ARun P d ops rest ⟨sz, A5 s (gAV C (.v (sv (m ++ n)))) fr, up, own, dfs, rnd⟩ Q) (hj : ops[j]? = some oj := by rfl) (hdj : oj.dst = some g := by rfl) (hgs : GIs (fr g) want C := by exact sL2) (hx : Ug C (A8 fr x) (.v (sv m)) := by exact sL1) (hy : Ug C (A8 fr y) (.v (sv n)) := by exact sL1) (hl : C = true → m.length + n.length ≤ 9223372036854775807 := by intro hB; simp only [List.length_append, List.length_cons, List.length_nil]; omega) (hs : Nat.blt s sz = true := by rfl) :
  ARun P d ops (⟨some s, .binOp .add t x y u, ty, pos, aft, some (j, want)⟩ :: rest) ⟨sz, fr, up, own, dfs, rnd⟩ Q :=
 ARun.guardC rfl hj hdj hgs rfl hs (fun hB => (OpV.sadd (hx.out hB) (hy.out hB) (hl hB))) hr
theorem R.slen (ht : P.underlying t = some .string) (hr : ARun P d ops rest ⟨sz, A5 s (.v (.int .i64 l.length)) fr, up, own, dfs, rnd⟩ Q) (hx : A8 fr x = .v (sv l) := by exact sL0)  (hs : Nat.blt s sz = true := by rfl) :
  ARun P d ops (⟨some s, .call ⟨.builtin .len, #[x], #[t]⟩, ty, pos, aft, none⟩ :: rest) ⟨sz, fr, up, own, dfs, rnd⟩ Q :=
 ARun.vv rfl rfl hs (OpV.slen ht hx) hr
theorem G.slen (ht : P.underlying t = some .string) (hr : ARun P d ops rest ⟨sz, A5 s (gAV C (.v (.int .i64 l.length))) fr, up, own, dfs, rnd⟩ Q) (hj : ops[j]? = some oj := by rfl) (hdj : oj.dst = some g := by rfl) (hgs : GIs (fr g) want C := by exact sL2) (hx : Ug C (A8 fr x) (.v (sv l)) := by exact sL1)  (hs : Nat.blt s sz = true := by rfl) :
  ARun P d ops (⟨some s, .call ⟨.builtin .len, #[x], #[t]⟩, ty, pos, aft, some (j, want)⟩ :: rest) ⟨sz, fr, up, own, dfs, rnd⟩ Q :=
 ARun.guardC rfl hj hdj hgs rfl hs (fun hB => (OpV.slen ht (hx.out hB))) hr
theorem R.len {o : Bool} (ht : P.underlying t = some (.slice e)) (hr : ARun P d ops rest ⟨sz, A5 s (.v (.int .i64 xs.length)) fr, up, own, dfs, rnd⟩ Q) (hx : A8 fr x = .slice o k xs := by exact sL0)  (hs : Nat.blt s sz = true := by rfl) :
  ARun P d ops (⟨some s, .call ⟨.builtin .len, #[x], #[t]⟩, ty, pos, aft, none⟩ :: rest) ⟨sz, fr, up, own, dfs, rnd⟩ Q :=
 ARun.vv rfl rfl hs (OpV.len ht hx) hr
theorem D.len {o : Bool} (ht : P.underlying t = some (.slice e)) (hr : ADraw P d l0 sz up own dfs rnd E kd rest (A5 s (.v (.int .i64 xs.length)) fr)) (hx : A8 fr x = .slice o k xs := by exact sL0)  (hs : Nat.blt s sz = true := by rfl) :
  ADraw P d l0 sz up own dfs rnd E (kd + 1) (⟨some s, .call ⟨.builtin .len, #[x], #[t]⟩, ty, pos, aft, none⟩ :: rest) fr :=
 ⟨s, _, rfl, by simpa using hs, fun f0 hag => (OpV.len ht ((agr hag (by simp [Op.operands, Call.operands])).trans hx)), hr⟩
theorem G.len {o : Bool} (ht : P.underlying t = some (.slice e)) (hr : ARun P d ops rest ⟨sz, A5 s (gAV C (.v (.int .i64 xs.length))) fr, up, own, dfs, rnd⟩ Q) (hj : ops[j]? = some oj := by rfl) (hdj : oj.dst = some g := by rfl) (hgs : GIs (fr g) want C := by exact sL2) (hx : Ug C (A8 fr x) (.slice o k xs) := by exact sL1)  (hs : Nat.blt s sz = true := by rfl) :
  ARun P d ops (⟨some s, .call ⟨.builtin .len, #[x], #[t]⟩, ty, pos, aft, some (j, want)⟩ :: rest) ⟨sz, fr, up, own, dfs, rnd⟩ Q :=
 ARun.guardC rfl hj hdj hgs rfl hs (fun hB => (OpV.len ht (hx.out hB))) hr
theorem H.len {o : Bool} (ht : P.underlying t = some (.slice e)) (hr : ADraw P d l0 sz up own dfs rnd E kd rest (A5 s (gAV C (.v (.int .i64 xs.length))) fr)) (hj : l0[j]? = some oj := by rfl) (hdj : oj.dst = some g := by rfl) (hgs : GIs (fr g) want C := by exact sL2) (hx : Ug C (A8 fr x) (.slice o k xs) := by exact sL1)  (hs : Nat.blt s sz = true := by rfl) :
  ADraw P d l0 sz up own dfs rnd E (kd + 1) (⟨some s, .call ⟨.builtin .len, #[x], #[t]⟩, ty, pos, aft, some (j, want)⟩ :: rest) fr :=
 ⟨s, _, rfl, by simpa using hs, ⟨oj, g, C, _, hj, hdj, hgs, rfl, fun hB f0 hag => (OpV.len ht ((agr hag (by simp [Op.operands, Call.operands])).trans (hx.out hB)))⟩, hr⟩
theorem R.sindex {t : TypeId} {x i : Operand} {l : List UInt8} {k : IntKind} {m : Int} (n : Nat) (b : UInt8) (ht : P.underlying t = some .string) (hb : l[n]? = some b) (hr : ARun P d ops rest ⟨sz, A5 s (.v (.int .u8 b.toNat)) fr, up, own, dfs, rnd⟩ Q) (hx : A8 fr x = .v (sv l) := by exact sL0) (hi : A8 fr i = .v (.int k m) := by exact sL0) (hn : m = (n : Int) := by first | rfl | omega) (hs : Nat.blt s sz = true := by rfl) :
  ARun P d ops (⟨some s, .index t x i, ty, pos, aft, none⟩ :: rest) ⟨sz, fr, up, own, dfs, rnd⟩ Q :=
 ARun.vv rfl rfl hs (OpV.sindex (n := n) ht hx (by subst hn; exact hi) hb) hr
theorem G.sindex {t : TypeId} {x i : Operand} {l : List UInt8} {k : IntKind} {m : Int} {oj : Oper} {j g : Nat} {want C : Bool} (n : Nat) (b : UInt8) (ht : P.underlying t = some .string) (hb : C = true → l[n]? = some b) (hr : ARun P d ops rest ⟨sz, A5 s (gAV C (.v (.int .u8 b.toNat))) fr, up, own, dfs, rnd⟩ Q) (hj : ops[j]? = some oj := by rfl) (hdj : oj.dst = some g := by rfl) (hgs : GIs (fr g) want C := by exact sL2) (hx : Ug C (A8 fr x) (.v (sv l)) := by exact sL1) (hi : Ug C (A8 fr i) (.v (.int k m)) := by exact sL1) (hn : C = true → m = (n : Int) := by intro hB; first | rfl | omega) (hs : Nat.blt s sz = true := by rfl) :
  ARun P d ops (⟨some s, .index t x i, ty, pos, aft, some (j, want)⟩ :: rest) ⟨sz, fr, up, own, dfs, rnd⟩ Q :=
 ARun.guardC rfl hj hdj hgs rfl hs (fun hB => (OpV.sindex (n := n) ht (hx.out hB) (by have hn' := hn hB; subst hn'; exact (hi.out hB)) (hb hB))) hr
theorem R.indexAddr {t e : TypeId} {x i : Operand} {o : Bool} {k : Nat} {q : IntKind} {xs : List AV} {m : Int} {cs : List AV} (n : Nat) (y : AV) (ht : P.underlying t = some (.slice e)) (hsz : ∀ w, (Go.sizeOf e).run P w = .ok k w) (hb : xs[n]? = some y) (hr : ARun P d ops rest ⟨sz, A5 s (.ro cs) fr, up, own, dfs, rnd⟩ Q) (hx : A8 fr x = .slice o k xs := by exact sL0) (hi : A8 fr i = .v (.int q m) := by exact sL0) (hn : m = (n : Int) := by first | rfl | omega) (hc : y.cells = cs := by exact sL0) (hs : Nat.blt s sz = true := by rfl) :
  ARun P d ops (⟨some s, .indexAddr t x i, ty, pos, aft, none⟩ :: rest) ⟨sz, fr, up, own, dfs, rnd⟩ Q :=
 ARun.vv rfl rfl hs (hc ▸ OpV.indexAddr (n := n) ht hsz hx (by subst hn; exact hi) hb) hr
theorem D.indexAddr {t e : TypeId} {x i : Operand} {o : Bool} {k : Nat} {q : IntKind} {xs : List AV} {m : Int} {cs : List AV} (n : Nat) (y : AV) (ht : P.underlying t = some (.slice e)) (hsz : ∀ w, (Go.sizeOf e).run P w = .ok k w) (hb : xs[n]? = some y) (hr : ADraw P d l0 sz up own dfs rnd E kd rest (A5 s (.ro cs) fr)) (hx : A8 fr x = .slice o k xs := by exact sL0) (hi : A8 fr i = .v (.int q m) := by exact sL0) (hn : m = (n : Int) := by first | rfl | omega) (hc : y.cells = cs := by exact sL0) (hs : Nat.blt s sz = true := by rfl) :
  ADraw P d l0 sz up own dfs rnd E (kd + 1) (⟨some s, .indexAddr t x i, ty, pos, aft, none⟩ :: rest) fr :=
 ⟨s, _, rfl, by simpa using hs, fun f0 hag => (hc ▸ OpV.indexAddr (n := n) ht hsz ((agr hag (by simp [Op.operands, Call.operands])).trans hx) (by subst hn; exact ((agr hag (by simp [Op.operands, Call.operands])).trans hi)) hb), hr⟩
theorem G.indexAddr {t e : TypeId} {x i : Operand} {o : Bool} {k : Nat} {q : IntKind} {xs : List AV} {m : Int} {cs : List AV} {oj : Oper} {j g : Nat} {want C : Bool} (n : Nat) (y : AV) (ht : P.underlying t = some (.slice e)) (hsz : ∀ w, (Go.sizeOf e).run P w = .ok k w) (hb : C = true → xs[n]? = some y) (hr : ARun P d ops rest ⟨sz, A5 s (gAV C (.ro cs)) fr, up, own, dfs, rnd⟩ Q) (hj : ops[j]? = some oj := by rfl) (hdj : oj.dst = some g := by rfl) (hgs : GIs (fr g) want C := by exact sL2) (hx : Ug C (A8 fr x) (.slice o k xs) := by exact sL1) (hi : Ug C (A8 fr i) (.v (.int q m)) := by exact sL1) (hn : C = true → m = (n : Int) := by intro hB; first | rfl | omega) (hc : y.cells = cs := by exact sL0) (hs : Nat.blt s sz = true := by rfl) :
  ARun P d ops (⟨some s, .indexAddr t x i, ty, pos, aft, some (j, want)⟩ :: rest) ⟨sz, fr, up, own, dfs, rnd⟩ Q :=
 ARun.guardC rfl hj hdj hgs rfl hs (fun hB => (hc ▸ OpV.indexAddr (n := n) ht hsz (hx.out hB) (by have hn' := hn hB; subst hn'; exact (hi.out hB)) (hb hB))) hr
theorem H.indexAddr {t e : TypeId} {x i : Operand} {o : Bool} {k : Nat} {q : IntKind} {xs : List AV} {m : Int} {cs : List AV} {oj : Oper} {j g : Nat} {want C : Bool} (n : Nat) (y : AV) (ht : P.underlying t = some (.slice e)) (hsz : ∀ w, (Go.sizeOf e).run P w = .ok k w) (hb : C = true → xs[n]? = some y) (hr : ADraw P d l0 sz up own dfs rnd E kd rest (A5 s (gAV C (.ro cs)) fr)) (hj : l0[j]? = some oj := by rfl) (hdj : oj.dst = some g := by rfl) (hgs : GIs (fr g) want C := by exact sL2) (hx : Ug C (A8 fr x) (.slice o k xs) := by exact sL1) (hi : Ug C (A8 fr i) (.v (.int q m)) := by exact sL1) (hn : C = true → m = (n : Int) := by intro hB; first | rfl | omega) (hc : y.cells = cs := by exact sL0) (hs : Nat.blt s sz = true := by rfl) :
  ADraw P d l0 sz up own dfs rnd E (kd + 1) (⟨some s, .indexAddr t x i, ty, pos, aft, some (j, want)⟩ :: rest) fr :=
 ⟨s, _, rfl, by simpa using hs, ⟨oj, g, C, _, hj, hdj, hgs, rfl, fun hB f0 hag => (hc ▸ OpV.indexAddr (n := n) ht hsz ((agr hag (by simp [Op.operands, Call.operands])).trans (hx.out hB)) (by have hn' := hn hB; subst hn'; exact ((agr hag (by simp [Op.operands, Call.operands])).trans (hi.out hB))) (hb hB))⟩, hr⟩
theorem R.fieldAddrRo {t ft : TypeId} {x : Operand} {i k off : Nat} {fs : Array Field} {f : Field} {cs cs' : List AV} (ht : P.underlying t = some (.struct fs)) (hsz : ∀ w, (Go.sizeOf ft).run P w = .ok k w) (hr : ARun P d ops rest ⟨sz, A5 s (.ro cs') fr, up, own, dfs, rnd⟩ Q) (hx : A8 fr x = .ro cs := by exact sL0) (hf : fs[i]? = some f := by rfl) (hft : f.type = ft := by rfl) (hfo : f.offset = off := by rfl) (hk : k ≠ 0 := by decide) (hc : cs.drop off = cs' := by exact sL0) (hs : Nat.blt s sz = true := by rfl) :
  ARun P d ops (⟨some s, .fieldAddr t x i, ty, pos, aft, none⟩ :: rest) ⟨sz, fr, up, own, dfs, rnd⟩ Q :=
 ARun.vv rfl rfl hs (by subst hft; subst hfo; exact hc ▸ OpV.fieldAddrRo ht hf hsz hk hx) hr
theorem D.fieldAddrRo {t ft : TypeId} {x : Operand} {i k off : Nat} {fs : Array Field} {f : Field} {cs cs' : List AV} (ht : P.underlying t = some (.struct fs)) (hsz : ∀ w, (Go.sizeOf ft).run P w = .ok k w) (hr : ADraw P d l0 sz up own dfs rnd E kd rest (A5 s (.ro cs') fr)) (hx : A8 fr x = .ro cs := by exact sL0) (hf : fs[i]? = some f := by rfl) (hft : f.type = ft := by rfl) (hfo : f.offset = off := by rfl) (hk : k ≠ 0 := by decide) (hc : cs.drop off = cs' := by exact sL0) (hs : Nat.blt s sz = true := by rfl) :
  ADraw P d l0 sz up own dfs rnd E (kd + 1) (⟨some s, .fieldAddr t x i, ty, pos, aft, none⟩ :: rest) fr :=
 ⟨s, _, rfl, by simpa using hs, fun f0 hag => (by subst hft; subst hfo; exact hc ▸ OpV.fieldAddrRo ht hf hsz hk ((agr hag (by simp [Op.operands, Call.operands])).trans hx)), hr⟩
theorem G.fieldAddrRo {t ft : TypeId} {x : Operand} {i k off : Nat} {fs : Array Field} {f : Field} {cs cs' : List AV} {oj : Oper} {j g : Nat} {want C : Bool} (ht : P.underlying t = some (.struct fs)) (hsz : ∀ w, (Go.sizeOf ft).run P w = .ok k w) (hr : ARun P d ops rest ⟨sz, A5 s (gAV C (.ro cs')) fr, up, own, dfs, rnd⟩ Q) (hj : ops[j]? = some oj := by rfl) (hdj : oj.dst = some g := by rfl) (hgs : GIs (fr g) want C := by exact sL2) (hx : Ug C (A8 fr x) (.ro cs) := by exact sL1) (hf : fs[i]? = some f := by rfl) (hft : f.type = ft := by rfl) (hfo : f.offset = off := by rfl) (hk : k ≠ 0 := by decide) (hc : cs.drop off = cs' := by exact sL0) (hs : Nat.blt s sz = true := by rfl) :
  ARun P d ops (⟨some s, .fieldAddr t x i, ty, pos, aft, some (j, want)⟩ :: rest) ⟨sz, fr, up, own, dfs, rnd⟩ Q :=
 ARun.guardC rfl hj hdj hgs rfl hs (fun hB => (by subst hft; subst hfo; exact hc ▸ OpV.fieldAddrRo ht hf hsz hk (hx.out hB))) hr
theorem H.fieldAddrRo {t ft : TypeId} {x : Operand} {i k off : Nat} {fs : Array Field} {f : Field} {cs cs' : List AV} {oj : Oper} {j g : Nat} {want C : Bool} (ht : P.underlying t = some (.struct fs)) (hsz : ∀ w, (Go.sizeOf ft).run P w = .ok k w) (hr : ADraw P d l0 sz up own dfs rnd E kd rest (A5 s (gAV C (.ro cs')) fr)) (hj : l0[j]? = some oj := by rfl) (hdj : oj.dst = some g := by rfl) (hgs : GIs (fr g) want C := by exact sL2) (hx : Ug C (A8 fr x) (.ro cs) := by exact sL1) (hf : fs[i]? = some f := by rfl) (hft : f.type = ft := by rfl) (hfo : f.offset = off := by rfl) (hk : k ≠ 0 := by decide) (hc : cs.drop off = cs' := by exact sL0) (hs : Nat.blt s sz = true := by rfl) :
  ADraw P d l0 sz up own dfs rnd E (kd + 1) (⟨some s, .fieldAddr t x i, ty, pos, aft, some (j, want)⟩ :: rest) fr :=
 ⟨s, _, rfl, by simpa using hs, ⟨oj, g, C, _, hj, hdj, hgs, rfl, fun hB f0 hag => (by subst hft; subst hfo; exact hc ▸ OpV.fieldAddrRo ht hf hsz hk ((agr hag (by simp [Op.operands, Call.operands])).trans (hx.out hB)))⟩, hr⟩
theorem R.fieldAddrPtr {t ft : TypeId} {x : Operand} {i k o off fo off' : Nat} {fs : Array Field} {f : Field} (ht : P.underlying t = some (.struct fs)) (hsz : ∀ w, (Go.sizeOf ft).run P w = .ok k w) (hr : ARun P d ops rest ⟨sz, A5 s (.ptr o off') fr, up, own, dfs, rnd⟩ Q) (hx : A8 fr x = .ptr o off := by exact sL0) (hf : fs[i]? = some f := by rfl) (hft : f.type = ft := by rfl) (hfo : f.offset = fo := by rfl) (hk : k ≠ 0 := by decide) (hc : off + fo = off' := by exact sL0) (hs : Nat.blt s sz = true := by rfl) :
  ARun P d ops (⟨some s, .fieldAddr t x i, ty, pos, aft, none⟩ :: rest) ⟨sz, fr, up, own, dfs, rnd⟩ Q :=
 ARun.vv rfl rfl hs (by subst hft; subst hfo; exact hc ▸ OpV.fieldAddrPtr ht hf hsz hk hx) hr
theorem D.fieldAddrPtr {t ft : TypeId} {x : Operand} {i k o off fo off' : Nat} {fs : Array Field} {f : Field} (ht : P.underlying t = some (.struct fs)) (hsz : ∀ w, (Go.sizeOf ft).run P w = .ok k w) (hr : ADraw P d l0 sz up own dfs rnd E kd rest (A5 s (.ptr o off') fr)) (hx : A8 fr x = .ptr o off := by exact sL0) (hf : fs[i]? = some f := by rfl) (hft : f.type = ft := by rfl) (hfo : f.offset = fo := by rfl) (hk : k ≠ 0 := by decide) (hc : off + fo = off' := by exact sL0) (hs : Nat.blt s sz = true := by rfl) :
  ADraw P d l0 sz up own dfs rnd E (kd + 1) (⟨some s, .fieldAddr t x i, ty, pos, aft, none⟩ :: rest) fr :=
 ⟨s, _, rfl, by simpa using hs, fun f0 hag => (by subst hft; subst hfo; exact hc ▸ OpV.fieldAddrPtr ht hf hsz hk ((agr hag (by simp [Op.operands, Call.operands])).trans hx)), hr⟩
theorem G.fieldAddrPtr {t ft : TypeId} {x : Operand} {i k o off fo off' : Nat} {fs : Array Field} {f : Field} {oj : Oper} {j g : Nat} {want C : Bool} (ht : P.underlying t = some (.struct fs)) (hsz : ∀ w, (Go.sizeOf ft).run P w = .ok k w) (hr : ARun P d ops rest ⟨sz, A5 s (gAV C (.ptr o off')) fr, up, own, dfs, rnd⟩ Q) (hj : ops[j]? = some oj := by rfl) (hdj : oj.dst = some g := by rfl) (hgs : GIs (fr g) want C := by exact sL2) (hx : Ug C (A8 fr x) (.ptr o off) := by exact sL1) (hf : fs[i]? = some f := by rfl) (hft : f.type = ft := by rfl) (hfo : f.offset = fo := by rfl) (hk : k ≠ 0 := by decide) (hc : off + fo = off' := by exact sL0) (hs : Nat.blt s sz = true := by rfl) :
  ARun P d ops (⟨some s, .fieldAddr t x i, ty, pos, aft, some (j, want)⟩ :: rest) ⟨sz, fr, up, own, dfs, rnd⟩ Q :=
 ARun.guardC rfl hj hdj hgs rfl hs (fun hB => (by subst hft; subst hfo; exact hc ▸ OpV.fieldAddrPtr ht hf hsz hk (hx.out hB))) hr
theorem H.fieldAddrPtr {t ft : TypeId} {x : Operand} {i k o off fo off' : Nat} {fs : Array Field} {f : Field} {oj : Oper} {j g : Nat} {want C : Bool} (ht : P.underlying t = some (.struct fs)) (hsz : ∀ w, (Go.sizeOf ft).run P w = .ok k w) (hr : ADraw P d l0 sz up own dfs rnd E kd rest (A5 s (gAV C (.ptr o off')) fr)) (hj : l0[j]? = some oj := by rfl) (hdj : oj.dst = some g := by rfl) (hgs : GIs (fr g) want C := by exact sL2) (hx : Ug C (A8 fr x) (.ptr o off) := by exact sL1) (hf : fs[i]? = some f := by rfl) (hft : f.type = ft := by rfl) (hfo : f.offset = fo := by rfl) (hk : k ≠ 0 := by decide) (hc : off + fo = off' := by exact sL0) (hs : Nat.blt s sz = true := by rfl) :
  ADraw P d l0 sz up own dfs rnd E (kd + 1) (⟨some s, .fieldAddr t x i, ty, pos, aft, some (j, want)⟩ :: rest) fr :=
 ⟨s, _, rfl, by simpa using hs, ⟨oj, g, C, _, hj, hdj, hgs, rfl, fun hB f0 hag => (by subst hft; subst hfo; exact hc ▸ OpV.fieldAddrPtr ht hf hsz hk ((agr hag (by simp [Op.operands, Call.operands])).trans (hx.out hB)))⟩, hr⟩
theorem R.nilPtr (hr : ARun P d ops rest ⟨sz, A5 s (.ptr o off) fr, up, own, dfs, rnd⟩ Q) (hx : A8 fr x = .ptr o off := by exact sL0)  (hs : Nat.blt s sz = true := by rfl) :
  ARun P d ops (⟨some s, .nilCheck x, ty, pos, aft, none⟩ :: rest) ⟨sz, fr, up, own, dfs, rnd⟩ Q :=
 ARun.vv rfl rfl hs (OpV.nilCheckPtr hx) hr
theorem D.nilPtr (hr : ADraw P d l0 sz up own dfs rnd E kd rest (A5 s (.ptr o off) fr)) (hx : A8 fr x = .ptr o off := by exact sL0)  (hs : Nat.blt s sz = true := by rfl) :
  ADraw P d l0 sz up own dfs rnd E (kd + 1) (⟨some s, .nilCheck x, ty, pos, aft, none⟩ :: rest) fr :=
 ⟨s, _, rfl, by simpa using hs, fun f0 hag => (OpV.nilCheckPtr ((agr hag (by simp [Op.operands, Call.operands])).trans hx)), hr⟩
theorem R.loadRo (hagg : ∀ w, (isAgg t).run P w = .ok false w) (hr : ARun P d ops rest ⟨sz, A5 s (y) fr, up, own, dfs, rnd⟩ Q) (hx : A8 fr x = .ro (y :: cs) := by exact sL0)  (hs : Nat.blt s sz = true := by rfl) :
  ARun P d ops (⟨some s, .load t x, ty, pos, aft, none⟩ :: rest) ⟨sz, fr, up, own, dfs, rnd⟩ Q :=
 ARun.vv rfl rfl hs (OpV.loadRo hagg hx) hr
theorem D.loadRo (hagg : ∀ w, (isAgg t).run P w = .ok false w) (hr : ADraw P d l0 sz up own dfs rnd E kd rest (A5 s (y) fr)) (hx : A8 fr x = .ro (y :: cs) := by exact sL0)  (hs : Nat.blt s sz = true := by rfl) :
  ADraw P d l0 sz up own dfs rnd E (kd + 1) (⟨some s, .load t x, ty, pos, aft, none⟩ :: rest) fr :=
 ⟨s, _, rfl, by simpa using hs, fun f0 hag => (OpV.loadRo hagg ((agr hag (by simp [Op.operands, Call.operands])).trans hx)), hr⟩
theorem G.loadRo (hagg : ∀ w, (isAgg t).run P w = .ok false w) (hr : ARun P d ops rest ⟨sz, A5 s (gAV C (y)) fr, up, own, dfs, rnd⟩ Q) (hj : ops[j]? = some oj := by rfl) (hdj : oj.dst = some g := by rfl) (hgs : GIs (fr g) want C := by exact sL2) (hx : Ug C (A8 fr x) (.ro (y :: cs)) := by exact sL1)  (hs : Nat.blt s sz = true := by rfl) :
  ARun P d ops (⟨some s, .load t x, ty, pos, aft, some (j, want)⟩ :: rest) ⟨sz, fr, up, own, dfs, rnd⟩ Q :=
 ARun.guardC rfl hj hdj hgs rfl hs (fun hB => (OpV.loadRo hagg (hx.out hB))) hr
theorem H.loadRo (hagg : ∀ w, (isAgg t).run P w = .ok false w) (hr : ADraw P d l0 sz up own dfs rnd E kd rest (A5 s (gAV C (y)) fr)) (hj : l0[j]? = some oj := by rfl) (hdj : oj.dst = some g := by rfl) (hgs : GIs (fr g) want C := by exact sL2) (hx : Ug C (A8 fr x) (.ro (y :: cs)) := by exact sL1)  (hs : Nat.blt s sz = true := by rfl) :
  ADraw P d l0 sz up own dfs rnd E (kd + 1) (⟨some s, .load t x, ty, pos, aft, some (j, want)⟩ :: rest) fr :=
 ⟨s, _, rfl, by simpa using hs, ⟨oj, g, C, _, hj, hdj, hgs, rfl, fun hB f0 hag => (OpV.loadRo hagg ((agr hag (by simp [Op.operands, Call.operands])).trans (hx.out hB)))⟩, hr⟩
theorem R.loadRoN (hagg : ∀ w, (isAgg t).run P w = .ok true w) (hsz : ∀ w, (Go.sizeOf t).run P w = .ok k w) (hr : ARun P d ops rest ⟨sz, A5 s (.agg cs') fr, up, own, dfs, rnd⟩ Q) (hx : A8 fr x = .ro cs := by exact sL0) (hk : k ≤ cs.length := by exact sL3) (hc : cs.take k = cs' := by exact sL0) (hs : Nat.blt s sz = true := by rfl) :
  ARun P d ops (⟨some s, .load t x, ty, pos, aft, none⟩ :: rest) ⟨sz, fr, up, own, dfs, rnd⟩ Q :=
 ARun.vv rfl rfl hs (hc ▸ OpV.loadRoAgg hagg hsz hx hk) hr
theorem D.loadRoN (hagg : ∀ w, (isAgg t).run P w = .ok true w) (hsz : ∀ w, (Go.sizeOf t).run P w = .ok k w) (hr : ADraw P d l0 sz up own dfs rnd E kd rest (A5 s (.agg cs') fr)) (hx : A8 fr x = .ro cs := by exact sL0) (hk : k ≤ cs.length := by exact sL3) (hc : cs.take k = cs' := by exact sL0) (hs : Nat.blt s sz = true := by rfl) :
  ADraw P d l0 sz up own dfs rnd E (kd + 1) (⟨some s, .load t x, ty, pos, aft, none⟩ :: rest) fr :=
 ⟨s, _, rfl, by simpa using hs, fun f0 hag => (hc ▸ OpV.loadRoAgg hagg hsz ((agr hag (by simp [Op.operands, Call.operands])).trans hx) hk), hr⟩
theorem G.loadRoN (hagg : ∀ w, (isAgg t).run P w = .ok true w) (hsz : ∀ w, (Go.sizeOf t).run P w = .ok k w) (hr : ARun P d ops rest ⟨sz, A5 s (gAV C (.agg cs')) fr, up, own, dfs, rnd⟩ Q) (hj : ops[j]? = some oj := by rfl) (hdj : oj.dst = some g := by rfl) (hgs : GIs (fr g) want C := by exact sL2) (hx : Ug C (A8 fr x) (.ro cs) := by exact sL1) (hk : C = true → k ≤ cs.length := by intro hB; simp only [go_sem, ↓reduceIte, Nat.reduceEqDiff, Nat.reduceAdd] <;> omega) (hc : cs.take k = cs' := by exact sL0) (hs : Nat.blt s sz = true := by rfl) :
  ARun P d ops (⟨some s, .load t x, ty, pos, aft, some (j, want)⟩ :: rest) ⟨sz, fr, up, own, dfs, rnd⟩ Q :=
 ARun.guardC rfl hj hdj hgs rfl hs (fun hB => (hc ▸ OpV.loadRoAgg hagg hsz (hx.out hB) (hk hB))) hr
theorem H.loadRoN (hagg : ∀ w, (isAgg t).run P w = .ok true w) (hsz : ∀ w, (Go.sizeOf t).run P w = .ok k w) (hr : ADraw P d l0 sz up own dfs rnd E kd rest (A5 s (gAV C (.agg cs')) fr)) (hj : l0[j]? = some oj := by rfl) (hdj : oj.dst = some g := by rfl) (hgs : GIs (fr g) want C := by exact sL2) (hx : Ug C (A8 fr x) (.ro cs) := by exact sL1) (hk : C = true → k ≤ cs.length := by intro hB; simp only [go_sem, ↓reduceIte, Nat.reduceEqDiff, Nat.reduceAdd] <;> omega) (hc : cs.take k = cs' := by exact sL0) (hs : Nat.blt s sz = true := by rfl) :
  ADraw P d l0 sz up own dfs rnd E (kd + 1) (⟨some s, .load t x, ty, pos, aft, some (j, want)⟩ :: rest) fr :=
 ⟨s, _, rfl, by simpa using hs, ⟨oj, g, C, _, hj, hdj, hgs, rfl, fun hB f0 hag => (hc ▸ OpV.loadRoAgg hagg hsz ((agr hag (by simp [Op.operands, Call.operands])).trans (hx.out hB)) (hk hB))⟩, hr⟩
theorem R.loadOwn {n : Nat} (hagg : ∀ w, (isAgg t).run P w = .ok false w) (hr : ARun P d ops rest ⟨sz, A5 s (y') fr, up, own, dfs, rnd⟩ Q) (hx : A8 fr x = .ptr (oid up.length n) off := by exact sL0) (ho : own[n]? = some (.cells t' cs) := by rfl) (hy : cs[off]? = some y := by rfl) (hc : y.strip = y' := by exact sL0) (hs : Nat.blt s sz = true := by rfl) :
  ARun P d ops (⟨some s, .load t x, ty, pos, aft, none⟩ :: rest) ⟨sz, fr, up, own, dfs, rnd⟩ Q :=
 ARun.vv rfl rfl hs (hc ▸ OpV.loadObj hagg hx (by show (up ++ own)[up.length + n]? = _; rw [Bk]; exact ho) hy) hr
theorem D.loadOwn {n : Nat} (hagg : ∀ w, (isAgg t).run P w = .ok false w) (hr : ADraw P d l0 sz up own dfs rnd E kd rest (A5 s (y') fr)) (hx : A8 fr x = .ptr (oid up.length n) off := by exact sL0) (ho : own[n]? = some (.cells t' cs) := by rfl) (hy : cs[off]? = some y := by rfl) (hc : y.strip = y' := by exact sL0) (hs : Nat.blt s sz = true := by rfl) :
  ADraw P d l0 sz up own dfs rnd E (kd + 1) (⟨some s, .load t x, ty, pos, aft, none⟩ :: rest) fr :=
 ⟨s, _, rfl, by simpa using hs, fun f0 hag => (hc ▸ OpV.loadObj hagg ((agr hag (by simp [Op.operands, Call.operands])).trans hx) (by show (up ++ own)[up.length + n]? = _; rw [Bk]; exact ho) hy), hr⟩
theorem G.loadOwn {n : Nat} (hagg : ∀ w, (isAgg t).run P w = .ok false w) (hr : ARun P d ops rest ⟨sz, A5 s (gAV C (y')) fr, up, own, dfs, rnd⟩ Q) (hj : ops[j]? = some oj := by rfl) (hdj : oj.dst = some g := by rfl) (hgs : GIs (fr g) want C := by exact sL2) (hx : Ug C (A8 fr x) (.ptr (oid up.length n) off) := by exact sL1) (ho : own[n]? = some (.cells t' cs) := by rfl) (hy : cs[off]? = some y := by rfl) (hc : y.strip = y' := by exact sL0) (hs : Nat.blt s sz = true := by rfl) :
  ARun P d ops (⟨some s, .load t x, ty, pos, aft, some (j, want)⟩ :: rest) ⟨sz, fr, up, own, dfs, rnd⟩ Q :=
 ARun.guardC rfl hj hdj hgs rfl hs (fun hB => (hc ▸ OpV.loadObj hagg (hx.out hB) (by show (up ++ own)[up.length + n]? = _; rw [Bk]; exact ho) hy)) hr
theorem H.loadOwn {n : Nat} (hagg : ∀ w, (isAgg t).run P w = .ok false w) (hr : ADraw P d l0 sz up own dfs rnd E kd rest (A5 s (gAV C (y')) fr)) (hj : l0[j]? = some oj := by rfl) (hdj : oj.dst = some g := by rfl) (hgs : GIs (fr g) want C := by exact sL2) (hx : Ug C (A8 fr x) (.ptr (oid up.length n) off) := by exact sL1) (ho : own[n]? = some (.cells t' cs) := by rfl) (hy : cs[off]? = some y := by rfl) (hc : y.strip = y' := by exact sL0) (hs : Nat.blt s sz = true := by rfl) :
  ADraw P d l0 sz up own dfs rnd E (kd + 1) (⟨some s, .load t x, ty, pos, aft, some (j, want)⟩ :: rest) fr :=
 ⟨s, _, rfl, by simpa using hs, ⟨oj, g, C, _, hj, hdj, hgs, rfl, fun hB f0 hag => (hc ▸ OpV.loadObj hagg ((agr hag (by simp [Op.operands, Call.operands])).trans (hx.out hB)) (by show (up ++ own)[up.length + n]? = _; rw [Bk]; exact ho) hy)⟩, hr⟩
theorem R.loadOwnN {n : Nat} (hagg : ∀ w, (isAgg t).run P w = .ok true w) (hsz : ∀ w, (Go.sizeOf t).run P w = .ok k w) (hr : ARun P d ops rest ⟨sz, A5 s (.agg cs') fr, up, own, dfs, rnd⟩ Q) (hx : A8 fr x = .ptr (oid up.length n) off := by exact sL0) (ho : own[n]? = some (.cells t' cs) := by rfl) (hk : off + k ≤ cs.length := by exact sL3) (h1 : ((cs.drop off).take k).all AV.one = true := by exact sL4) (hc : ((cs.drop off).take k).map AV.strip = cs' := by exact sL0) (hs : Nat.blt s sz = true := by rfl) :
  ARun P d ops (⟨some s, .load t x, ty, pos, aft, none⟩ :: rest) ⟨sz, fr, up, own, dfs, rnd⟩ Q :=
 ARun.vv rfl rfl hs (hc ▸ OpV.loadObjAgg hagg hsz hx (by show (up ++ own)[up.length + n]? = _; rw [Bk]; exact ho) hk h1) hr
theorem D.loadOwnN {n : Nat} (hagg : ∀ w, (isAgg t).run P w = .ok true w) (hsz : ∀ w, (Go.sizeOf t).run P w = .ok k w) (hr : ADraw P d l0 sz up own dfs rnd E kd rest (A5 s (.agg cs') fr)) (hx : A8 fr x = .ptr (oid up.length n) off := by exact sL0) (ho : own[n]? = some (.cells t' cs) := by rfl) (hk : off + k ≤ cs.length := by exact sL3) (h1 : ((cs.drop off).take k).all AV.one = true := by exact sL4) (hc : ((cs.drop off).take k).map AV.strip = cs' := by exact sL0) (hs : Nat.blt s sz = true := by rfl) :
  ADraw P d l0 sz up own dfs rnd E (kd + 1) (⟨some s, .load t x, ty, pos, aft, none⟩ :: rest) fr :=
 ⟨s, _, rfl, by simpa using hs, fun f0 hag => (hc ▸ OpV.loadObjAgg hagg hsz ((agr hag (by simp [Op.operands, Call.operands])).trans hx) (by show (up ++ own)[up.length + n]? = _; rw [Bk]; exact ho) hk h1), hr⟩
theorem G.loadOwnN {n : Nat} (hagg : ∀ w, (isAgg t).run P w = .ok true w) (hsz : ∀ w, (Go.sizeOf t).run P w = .ok k w) (hr : ARun P d ops rest ⟨sz, A5 s (gAV C (.agg cs')) fr, up, own, dfs, rnd⟩ Q) (hj : ops[j]? = some oj := by rfl) (hdj : oj.dst = some g := by rfl) (hgs : GIs (fr g) want C := by exact sL2) (hx : Ug C (A8 fr x) (.ptr (oid up.length n) off) := by exact sL1) (ho : own[n]? = some (.cells t' cs) := by rfl) (hk : C = true → off + k ≤ cs.length := by intro hB; simp only [go_sem, ↓reduceIte, Nat.reduceEqDiff, Nat.reduceAdd] <;> omega) (h1 : ((cs.drop off).take k).all AV.one = true := by exact sL4) (hc : ((cs.drop off).take k).map AV.strip = cs' := by exact sL0) (hs : Nat.blt s sz = true := by rfl) :
  ARun P d ops (⟨some s, .load t x, ty, pos, aft, some (j, want)⟩ :: rest) ⟨sz, fr, up, own, dfs, rnd⟩ Q :=
 ARun.guardC rfl hj hdj hgs rfl hs (fun hB => (hc ▸ OpV.loadObjAgg hagg hsz (hx.out hB) (by show (up ++ own)[up.length + n]? = _; rw [Bk]; exact ho) (hk hB) h1)) hr
theorem R.loadUp (hagg : ∀ w, (isAgg t).run P w = .ok false w) (ho : up[o]? = some (.cells t' cs)) (hr : ARun P d ops rest ⟨sz, A5 s (y') fr, up, own, dfs, rnd⟩ Q) (hx : A8 fr x = .ptr o off := by exact sL0) (hy : cs[off]? = some y := by rfl) (hc : y.strip = y' := by exact sL0) (hs : Nat.blt s sz = true := by rfl) :
  ARun P d ops (⟨some s, .load t x, ty, pos, aft, none⟩ :: rest) ⟨sz, fr, up, own, dfs, rnd⟩ Q :=
 ARun.vv rfl rfl hs (hc ▸ OpV.loadObj hagg hx (A6 ho) hy) hr
theorem D.loadUp (hagg : ∀ w, (isAgg t).run P w = .ok false w) (ho : up[o]? = some (.cells t' cs)) (hr : ADraw P d l0 sz up own dfs rnd E kd rest (A5 s (y') fr)) (hx : A8 fr x = .ptr o off := by exact sL0) (hy : cs[off]? = some y := by rfl) (hc : y.strip = y' := by exact sL0) (hs : Nat.blt s sz = true := by rfl) :
  ADraw P d l0 sz up own dfs rnd E (kd + 1) (⟨some s, .load t x, ty, pos, aft, none⟩ :: rest) fr :=
 ⟨s, _, rfl, by simpa using hs, fun f0 hag => (hc ▸ OpV.loadObj hagg ((agr hag (by simp [Op.operands, Call.operands])).trans hx) (A6 ho) hy), hr⟩
theorem G.loadUp (hagg : ∀ w, (isAgg t).run P w = .ok false w) (ho : up[o]? = some (.cells t' cs)) (hr : ARun P d ops rest ⟨sz, A5 s (gAV C (y')) fr, up, own, dfs, rnd⟩ Q) (hj : ops[j]? = some oj := by rfl) (hdj : oj.dst = some g := by rfl) (hgs : GIs (fr g) want C := by exact sL2) (hx : Ug C (A8 fr x) (.ptr o off) := by exact sL1) (hy : cs[off]? = some y := by rfl) (hc : y.strip = y' := by exact sL0) (hs : Nat.blt s sz = true := by rfl) :
  ARun P d ops (⟨some s, .load t x, ty, pos, aft, some (j, want)⟩ :: rest) ⟨sz, fr, up, own, dfs, rnd⟩ Q :=
 ARun.guardC rfl hj hdj hgs rfl hs (fun hB => (hc ▸ OpV.loadObj hagg (hx.out hB) (A6 ho) hy)) hr
theorem R.loadUpN (hagg : ∀ w, (isAgg t).run P w = .ok true w) (hsz : ∀ w, (Go.sizeOf t).run P w = .ok k w) (ho : up[o]? = some (.cells t' cs)) (hr : ARun P d ops rest ⟨sz, A5 s (.agg cs') fr, up, own, dfs, rnd⟩ Q) (hx : A8 fr x = .ptr o off := by exact sL0) (hk : off + k ≤ cs.length := by exact sL3) (h1 : ((cs.drop off).take k).all AV.one = true := by exact sL4) (hc : ((cs.drop off).take k).map AV.strip = cs' := by exact sL0) (hs : Nat.blt s sz = true := by rfl) :
  ARun P d ops (⟨some s, .load t x, ty, pos, aft, none⟩ :: rest) ⟨sz, fr, up, own, dfs, rnd⟩ Q :=
 ARun.vv rfl rfl hs (hc ▸ OpV.loadObjAgg hagg hsz hx (A6 ho) hk h1) hr
theorem R.extract (hr : ARun P d ops rest ⟨sz, A5 s (y) fr, up, own, dfs, rnd⟩ Q) (hx : A8 fr x = .tup ys := by exact sL0) (hi : ys[i]? = some y := by rfl) (hs : Nat.blt s sz = true := by rfl) :
  ARun P d ops (⟨some s, .extract x i, ty, pos, aft, none⟩ :: rest) ⟨sz, fr, up, own, dfs, rnd⟩ Q :=
 ARun.vv rfl rfl hs (OpV.extract hx hi) hr
theorem D.extract (hr : ADraw P d l0 sz up own dfs rnd E kd rest (A5 s (y) fr)) (hx : A8 fr x = .tup ys := by exact sL0) (hi : ys[i]? = some y := by rfl) (hs : Nat.blt s sz = true := by rfl) :
  ADraw P d l0 sz up own dfs rnd E (kd + 1) (⟨some s, .extract x i, ty, pos, aft, none⟩ :: rest) fr :=
 ⟨s, _, rfl, by simpa using hs, fun f0 hag => (OpV.extract ((agr hag (by simp [Op.operands, Call.operands])).trans hx) hi), hr⟩
theorem R.iconv {a : TypeId} {k k' : IntKind} (hs' : P.underlying a = some (.int k)) (ht : P.underlying t = some (.int k')) (hr : ARun P d ops rest ⟨sz, A5 s (.v (.int k' (k'.wrap n))) fr, up, own, dfs, rnd⟩ Q) (hx : A8 fr x = .v (.int k n) := by exact sL0)  (hs : Nat.blt s sz = true := by rfl) :
  ARun P d ops (⟨some s, .convert a t x, ty, pos, aft, none⟩ :: rest) ⟨sz, fr, up, own, dfs, rnd⟩ Q :=
 ARun.vv rfl rfl hs (OpV.iconv hs' ht hx) hr
theorem R.field1 {t ft : TypeId} {x : Operand} {i : Nat} {fs : Array Field} {f : Field} {cs : List AV} {y : AV} (ht : P.underlying t = some (.struct fs)) (hagg : ∀ w, (isAgg ft).run P w = .ok false w) (hr : ARun P d ops rest ⟨sz, A5 s (y) fr, up, own, dfs, rnd⟩ Q) (hx : A8 fr x = .agg cs := by exact sL0) (hf : fs[i]? = some f := by rfl) (hft : f.type = ft := by rfl) (hy : cs[f.offset]? = some y := by rfl) (hs : Nat.blt s sz = true := by rfl) :
  ARun P d ops (⟨some s, .field t x i, ty, pos, aft, none⟩ :: rest) ⟨sz, fr, up, own, dfs, rnd⟩ Q :=
 ARun.vv rfl rfl hs (by subst hft; exact OpV.field1 ht hf hagg hx hy) hr
theorem R.eqlAgg {y : Operand} {xs ys : List Value} (hgd : P.eqGuardType P.depth t = false) (he : ∀ w, (Op.equal t (.agg xs.toArray) (.agg ys.toArray)).run P w = .ok b w) (hr : ARun P d ops rest ⟨sz, A5 s (.v (.bool (b))) fr, up, own, dfs, rnd⟩ Q) (hx : A8 fr x = .agg (xs.map .v) := by exact sL0) (hy : A8 fr y = .agg (ys.map .v) := by exact sL0)  (hs : Nat.blt s sz = true := by rfl) :
  ARun P d ops (⟨some s, .binOp .eql t x y u, ty, pos, aft, none⟩ :: rest) ⟨sz, fr, up, own, dfs, rnd⟩ Q :=
 ARun.vv rfl rfl hs (OpV.eqlAgg hgd hx hy he) hr
theorem G.eqlAgg {y : Operand} {xs ys : List Value} (hgd : P.eqGuardType P.depth t = false) (he : ∀ w, (Op.equal t (.agg xs.toArray) (.agg ys.toArray)).run P w = .ok b w) (hr : ARun P d ops rest ⟨sz, A5 s (gAV C (.v (.bool (b)))) fr, up, own, dfs, rnd⟩ Q) (hj : ops[j]? = some oj := by rfl) (hdj : oj.dst = some g := by rfl) (hgs : GIs (fr g) want C := by exact sL2) (hx : Ug C (A8 fr x) (.agg (xs.map .v)) := by exact sL1) (hy : Ug C (A8 fr y) (.agg (ys.map .v)) := by exact sL1)  (hs : Nat.blt s sz = true := by rfl) :
  ARun P d ops (⟨some s, .binOp .eql t x y u, ty, pos, aft, some (j, want)⟩ :: rest) ⟨sz, fr, up, own, dfs, rnd⟩ Q :=
 ARun.guardC rfl hj hdj hgs rfl hs (fun hB => (OpV.eqlAgg hgd (hx.out hB) (hy.out hB) he)) hr
theorem R.neqAgg {y : Operand} {xs ys : List Value} (hgd : P.eqGuardType P.depth t = false) (he : ∀ w, (Op.equal t (.agg xs.toArray) (.agg ys.toArray)).run P w = .ok b w) (hr : ARun P d ops rest ⟨sz, A5 s (.v (.bool (!b))) fr, up, own, dfs, rnd⟩ Q) (hx : A8 fr x = .agg (xs.map .v) := by exact sL0) (hy : A8 fr y = .agg (ys.map .v) := by exact sL0)  (hs : Nat.blt s sz = true := by rfl) :
  ARun P d ops (⟨some s, .binOp .neq t x y u, ty, pos, aft, none⟩ :: rest) ⟨sz, fr, up, own, dfs, rnd⟩ Q :=
 ARun.vv rfl rfl hs (OpV.neqAgg hgd hx hy he) hr
theorem R.boxRo (hr : ARun P d ops rest ⟨sz, A5 s (.ro cs) fr, up, own, dfs, rnd⟩ Q) (hx : A8 fr x = y := by exact sL0) (hc : y.cells = cs := by exact sL0) (h1 : cs.all AV.one = true := by exact sL4) (hs : Nat.blt s sz = true := by rfl) :
  ARun P d ops (⟨some s, .box t x, ty, pos, aft, none⟩ :: rest) ⟨sz, fr, up, own, dfs, rnd⟩ Q :=
 ARun.vv rfl rfl hs (hc ▸ OpV.boxRo hx (hc ▸ h1)) hr
theorem R.scutLH {t : TypeId} {x lo hi : Operand} {l : List UInt8} {kl : IntKind} {kh : IntKind} {a : Int} {b : Int} (m : Nat) (n : Nat) (ht : P.underlying t = some .string) (hm : m ≤ n) (hn : n ≤ l.length) (hr : ARun P d ops rest ⟨sz, A5 s (.v (sv ((l.take n).drop m))) fr, up, own, dfs, rnd⟩ Q) (hx : A8 fr x = .v (sv l) := by exact sL0) (hlo : A8 fr lo = .v (.int kl a) := by exact sL0) (hhi : A8 fr hi = .v (.int kh b) := by exact sL0) (ha : a = (m : Int) := by first | rfl | omega) (hb : b = (n : Int) := by first | rfl | omega) (hs : Nat.blt s sz = true := by rfl) :
  ARun P d ops (⟨some s, .slice t x (some lo) (some hi) none, ty, pos, aft, none⟩ :: rest) ⟨sz, fr, up, own, dfs, rnd⟩ Q :=
 ARun.vv rfl rfl hs (by have := OpV.scut (P := P) (d := d) (st := ⟨sz, fr, up, own, dfs, rnd⟩) (lo := some lo) (hi := some hi) (m := m) (n := n) (kl := kl) (kh := kh) (dst := some s) (ty := ty) (pos := pos) (aft := aft) (gd := none) ht hx (by subst ha; exact hlo) (by subst hb; exact hhi) hm hn; simpa only [List.drop_zero, List.take_length] using this) hr
theorem R.scutL {t : TypeId} {x lo : Operand} {l : List UInt8} {kl : IntKind}  {a : Int}  (m : Nat) (ht : P.underlying t = some .string) (hm : m ≤ l.length) (hn : l.length ≤ l.length) (hr : ARun P d ops rest ⟨sz, A5 s (.v (sv (l.drop m))) fr, up, own, dfs, rnd⟩ Q) (hx : A8 fr x = .v (sv l) := by exact sL0) (hlo : A8 fr lo = .v (.int kl a) := by exact sL0) (ha : a = (m : Int) := by first | rfl | omega) (hs : Nat.blt s sz = true := by rfl) :
  ARun P d ops (⟨some s, .slice t x (some lo) none none, ty, pos, aft, none⟩ :: rest) ⟨sz, fr, up, own, dfs, rnd⟩ Q :=
 ARun.vv rfl rfl hs (by have := OpV.scut (P := P) (d := d) (st := ⟨sz, fr, up, own, dfs, rnd⟩) (lo := some lo) (hi := none) (m := m) (n := l.length) (kl := kl) (kh := .i64) (dst := some s) (ty := ty) (pos := pos) (aft := aft) (gd := none) ht hx (by subst ha; exact hlo) rfl hm hn; simpa only [List.drop_zero, List.take_length] using this) hr
theorem R.scutH {t : TypeId} {x hi : Operand} {l : List UInt8} {kh : IntKind} {b : Int} (n : Nat) (ht : P.underlying t = some .string) (hm : 0 ≤ n) (hn : n ≤ l.length) (hr : ARun P d ops rest ⟨sz, A5 s (.v (sv (l.take n))) fr, up, own, dfs, rnd⟩ Q) (hx : A8 fr x = .v (sv l) := by exact sL0) (hhi : A8 fr hi = .v (.int kh b) := by exact sL0) (hb : b = (n : Int) := by first | rfl | omega) (hs : Nat.blt s sz = true := by rfl) :
  ARun P d ops (⟨some s, .slice t x none (some hi) none, ty, pos, aft, none⟩ :: rest) ⟨sz, fr, up, own, dfs, rnd⟩ Q :=
 ARun.vv rfl rfl hs (by have := OpV.scut (P := P) (d := d) (st := ⟨sz, fr, up, own, dfs, rnd⟩) (lo := none) (hi := some hi) (m := 0) (n := n) (kl := .i64) (kh := kh) (dst := some s) (ty := ty) (pos := pos) (aft := aft) (gd := none) ht hx rfl (by subst hb; exact hhi) hm hn; simpa only [List.drop_zero, List.take_length] using this) hr
theorem D.scutH {t : TypeId} {x hi : Operand} {l : List UInt8} {kh : IntKind} {b : Int} (n : Nat) (ht : P.underlying t = some .string) (hm : 0 ≤ n) (hn : n ≤ l.length) (hr : ADraw P d l0 sz up own dfs rnd E kd rest (A5 s (.v (sv (l.take n))) fr)) (hx : A8 fr x = .v (sv l) := by exact sL0) (hhi : A8 fr hi = .v (.int kh b) := by exact sL0) (hb : b = (n : Int) := by first | rfl | omega) (hs : Nat.blt s sz = true := by rfl) :
  ADraw P d l0 sz up own dfs rnd E (kd + 1) (⟨some s, .slice t x none (some hi) none, ty, pos, aft, none⟩ :: rest) fr :=
 ⟨s, _, rfl, by simpa using hs, fun f0 hag => (by have := OpV.scut (P := P) (d := d) (st := ⟨sz, f0, up, own, dfs, rnd⟩) (lo := none) (hi := some hi) (m := 0) (n := n) (kl := .i64) (kh := kh) (dst := some s) (ty := ty) (pos := pos) (aft := aft) (gd := none) ht ((agr hag (by simp [Op.operands, Call.operands])).trans hx) rfl (by subst hb; exact ((agr hag (by simp [Op.operands, Call.operands])).trans hhi)) hm hn; simpa only [List.drop_zero, List.take_length] using this), hr⟩
theorem G.scutH {t : TypeId} {x hi : Operand} {l : List UInt8} {kh : IntKind} {b : Int} {oj : Oper} {j g : Nat} {want C : Bool} (n : Nat) (ht : P.underlying t = some .string) (hm : C = true → 0 ≤ n) (hn : C = true → n ≤ l.length) (hr : ARun P d ops rest ⟨sz, A5 s (gAV C (.v (sv (l.take n)))) fr, up, own, dfs, rnd⟩ Q) (hj : ops[j]? = some oj := by rfl) (hdj : oj.dst = some g := by rfl) (hgs : GIs (fr g) want C := by exact sL2) (hx : Ug C (A8 fr x) (.v (sv l)) := by exact sL1) (hhi : Ug C (A8 fr hi) (.v (.int kh b)) := by exact sL1) (hb : C = true → b = (n : Int) := by intro hB; first | rfl | omega) (hs : Nat.blt s sz = true := by rfl) :
  ARun P d ops (⟨some s, .slice t x none (some hi) none, ty, pos, aft, some (j, want)⟩ :: rest) ⟨sz, fr, up, own, dfs, rnd⟩ Q :=
 ARun.guardC rfl hj hdj hgs rfl hs (fun hB => (by have := OpV.scut (P := P) (d := d) (st := ⟨sz, fr, up, own, dfs, rnd⟩) (lo := none) (hi := some hi) (m := 0) (n := n) (kl := .i64) (kh := kh) (dst := some s) (ty := ty) (pos := pos) (aft := aft) (gd := some (j, want)) ht (hx.out hB) rfl (by have hb' := hb hB; subst hb'; exact (hhi.out hB)) (hm hB) (hn hB); simpa only [List.drop_zero, List.take_length] using this)) hr
theorem R.pickAnd {y : Operand} (hr : ARun P d ops rest ⟨sz, A5 s (.v (.bool (B && A))) fr, up, own, dfs, rnd⟩ Q) (hc : A8 fr c = .v (.bool B) := by exact sL0) (hx : A8 fr x = gAV (B == true) (.v (.bool A)) := by exact sL0) (hy : A8 fr y = .v (.bool false) := by exact sL0) (hs : Nat.blt s sz = true := by rfl) :
  ARun P d ops (⟨some s, .pick c x y, ty, pos, aft, none⟩ :: rest) ⟨sz, fr, up, own, dfs, rnd⟩ Q := ARun.vv rfl rfl hs (OpV.pickAnd hc hx hy) hr
theorem R.pickOr {y : Operand} (hr : ARun P d ops rest ⟨sz, A5 s (.v (.bool (B || A))) fr, up, own, dfs, rnd⟩ Q) (hc : A8 fr c = .v (.bool B) := by exact sL0) (hx : A8 fr x = .v (.bool true) := by exact sL0) (hy : A8 fr y = gAV (B == false) (.v (.bool A)) := by exact sL0) (hs : Nat.blt s sz = true := by rfl) :
  ARun P d ops (⟨some s, .pick c x y, ty, pos, aft, none⟩ :: rest) ⟨sz, fr, up, own, dfs, rnd⟩ Q := ARun.vv rfl rfl hs (OpV.pickOr hc hx hy) hr
/-- At a region's end. -/
theorem R.fin (l : List Nat) (hq : Q ⟨sz, fr', up, own, dfs, rnd⟩) (h : Gp l fr = fr' := by exact sL0) : ARun P d ops [] ⟨sz, fr, up, own, dfs, rnd⟩ Q := ARun.endK l h hq

theorem R.alloc {t : TypeId} {z : Value} {zs : List AV} {n : Nat} (hz : ∀ w, (zeroValue t).run P w = .ok z w) (hr : ARun P d ops rest ⟨sz, A5 s (.ptr (oid up.length n) 0) fr, up, own', dfs, rnd⟩ Q)
  (hzs : z.cells.toList.map Ci = zs := by exact sL0) (hn : own.length = n := by rfl) (ho : own ++ [.cells t zs] = own' := by exact sL0) (hs : Nat.blt s sz = true := by rfl) :
  ARun P d ops (⟨some s, .alloc t, ty, pos, aft, none⟩ :: rest) ⟨sz, fr, up, own, dfs, rnd⟩ Q := by
 subst ho
 exact ARun.aop rfl (AOp.alloc (st := ⟨sz, fr, up, own, dfs, rnd⟩) hz hzs.symm hn (by simpa using hs)) hr
theorem R.box {t : TypeId} {x : Operand} {y : AV} {cs : List AV} {n : Nat} (hr : ARun P d ops rest ⟨sz, A5 s (.ptr (oid up.length n) 0) fr, up, own', dfs, rnd⟩ Q)
  (hx : A8 fr x = y := by exact sL0) (hc : y.cells = cs := by exact sL0) (h1 : cs.all AV.one = true := by exact sL4) (hn : own.length = n := by rfl) (ho : own ++ [.cells t cs] = own' := by exact sL0) (hs : Nat.blt s sz = true := by rfl) :
  ARun P d ops (⟨some s, .box t x, ty, pos, aft, none⟩ :: rest) ⟨sz, fr, up, own, dfs, rnd⟩ Q := by
 subst ho
 subst hc
 exact ARun.aop rfl (AOp.box (st := ⟨sz, fr, up, own, dfs, rnd⟩) hx h1 hn (by simpa using hs)) hr
theorem R.storeOwn {t t' : TypeId} {p x : Operand} {n off k : Nat} {y : AV} {ys cs cs' : List AV} (hsz : ∀ w, (Go.sizeOf t).run P w = .ok k w) (hr : ARun P d ops rest ⟨sz, fr, up, own', dfs, rnd⟩ Q)
  (hp : A8 fr p = .ptr (oid up.length n) off := by exact sL0) (ho : own[n]? = some (.cells t' cs) := by rfl) (hx : A8 fr x = y := by exact sL0) (hc : y.cells = ys := by exact sL0) (hk : ys.length = k := by rfl)
  (h1 : ys.all AV.one = true := by exact sL4) (hfit : off + k ≤ cs.length := by exact sL3) (hput : Ax cs off ys = cs' := by exact sL0) (hset : own.set n (.cells t' cs') = own' := by exact sL0) :
  ARun P d ops (⟨none, .store t p x, ty, pos, aft, none⟩ :: rest) ⟨sz, fr, up, own, dfs, rnd⟩ Q := by
 subst hset
 subst hput
 subst hc
 exact ARun.aop rfl (AOp.storeOwn (st := ⟨sz, fr, up, own, dfs, rnd⟩) hsz hp ho hx hk h1 hfit) hr
theorem R.storeOwnT {t t' : TypeId} {p : Operand} {r n off : Nat} {y z : AV} {cs cs' : List AV} (hsz : ∀ w, (Go.sizeOf t).run P w = .ok 1 w) (hr : ARun P d ops rest ⟨sz, A5 r z fr, up, own', dfs, rnd⟩ Q)
  (hp : A8 fr p = .ptr (oid up.length n) off := by exact sL0) (ho : own[n]? = some (.cells t' cs) := by rfl) (hx : fr r = y := by exact sL0) (hz : y.strip = z := by exact sL0)
  (h1 : y.one = true := by exact sL4) (hfit : off + 1 ≤ cs.length := by exact sL3) (hput : Ax cs off [y] = cs' := by exact sL0) (hset : own.set n (.cells t' cs') = own' := by exact sL0) :
  ARun P d ops (⟨none, .store t p (.tmp r), ty, pos, aft, none⟩ :: rest) ⟨sz, fr, up, own, dfs, rnd⟩ Q := by
 subst hset
 subst hput
 subst hz
 subst hx
 exact ARun.aop rfl (AOp.storeOwnT (st := ⟨sz, fr, up, own, dfs, rnd⟩) hsz hp ho h1 hfit) hr
theorem R.storeUp {t t' : TypeId} {p x : Operand} {o off k : Nat} {y : AV} {ys cs cs' : List AV} (hsz : ∀ w, (Go.sizeOf t).run P w = .ok k w) (ho : up[o]? = some (.cells t' cs)) (hlow : ∀ z ∈ ys, Low up.length z) (hr : ARun P d ops rest ⟨sz, fr, up.set o (.cells t' cs'), own, dfs, rnd⟩ Q)
  (hp : A8 fr p = .ptr o off := by exact sL0) (hx : A8 fr x = y := by exact sL0) (hc : y.cells = ys := by exact sL0) (hk : ys.length = k := by rfl)
  (h1 : ys.all AV.one = true := by exact sL4) (hfit : off + k ≤ cs.length := by exact sL3) (hput : Ax cs off ys = cs' := by exact sL0) :
  ARun P d ops (⟨none, .store t p x, ty, pos, aft, none⟩ :: rest) ⟨sz, fr, up, own, dfs, rnd⟩ Q := by
 subst hput
 subst hc
 exact ARun.aop rfl (AOp.storeUp (st := ⟨sz, fr, up, own, dfs, rnd⟩) hsz hp ho hx hk h1 hfit hlow) hr
theorem R.storeUpT {t t' : TypeId} {p : Operand} {r o off : Nat} {y z : AV} {cs cs' : List AV} (hsz : ∀ w, (Go.sizeOf t).run P w = .ok 1 w) (ho : up[o]? = some (.cells t' cs)) (hlow : Low up.length y) (hr : ARun P d ops rest ⟨sz, A5 r z fr, up.set o (.cells t' cs'), own, dfs, rnd⟩ Q)
  (hp : A8 fr p = .ptr o off := by exact sL0) (hx : fr r = y := by exact sL0) (hz : y.strip = z := by exact sL0)
  (h1 : y.one = true := by exact sL4) (hfit : off + 1 ≤ cs.length := by exact sL3) (hput : Ax cs off [y] = cs' := by exact sL0) :
  ARun P d ops (⟨none, .store t p (.tmp r), ty, pos, aft, none⟩ :: rest) ⟨sz, fr, up, own, dfs, rnd⟩ Q := by
 subst hput
 subst hz
 subst hx
 exact ARun.aop rfl (AOp.storeUpT (st := ⟨sz, fr, up, own, dfs, rnd⟩) hsz hp ho h1 hfit hlow) hr
theorem R.moveT {r : Nat} {y z : AV} (hr : ARun P d ops rest ⟨sz, A5 s y (A5 r z fr), up, own, dfs, rnd⟩ Q) (hx : fr r = y := by exact sL0) (hz : y.strip = z := by exact sL0) (hs : Nat.blt s sz = true := by rfl) :
  ARun P d ops (⟨some s, .move (.tmp r), ty, pos, aft, none⟩ :: rest) ⟨sz, fr, up, own, dfs, rnd⟩ Q := by
 subst hz
 subst hx
 exact ARun.aop rfl (AOp.moveT (st := ⟨sz, fr, up, own, dfs, rnd⟩) (by simpa using hs)) hr
theorem R.assignT {r : Nat} {y z : AV} (hr : ARun P d ops rest ⟨sz, A5 s y (A5 r z fr), up, own, dfs, rnd⟩ Q) (hx : fr r = y := by exact sL0) (hz : y.strip = z := by exact sL0) (hs : Nat.blt s sz = true := by rfl) :
  ARun P d ops (⟨some s, .assign (.tmp r), ty, pos, aft, none⟩ :: rest) ⟨sz, fr, up, own, dfs, rnd⟩ Q := by
 subst hz
 subst hx
 exact ARun.aop rfl (AOp.assignT (st := ⟨sz, fr, up, own, dfs, rnd⟩) (by simpa using hs)) hr
theorem R.loadOwnT {t t' : TypeId} {p : Operand} {n off : Nat} {y z : AV} {cs cs' : List AV} (hagg : ∀ w, (isAgg t).run P w = .ok false w) (hr : ARun P d ops rest ⟨sz, A5 s y fr, up, own', dfs, rnd⟩ Q)
  (hp : A8 fr p = .ptr (oid up.length n) off := by exact sL0) (ho : own[n]? = some (.cells t' cs) := by rfl) (hy : cs[off]? = some y := by rfl) (hz : y.strip = z := by exact sL0) (hcs : cs.set off z = cs' := by exact sL0)
  (hset : own.set n (.cells t' cs') = own' := by exact sL0) (hs : Nat.blt s sz = true := by rfl) :
  ARun P d ops (⟨some s, .load t p, ty, pos, aft, none⟩ :: rest) ⟨sz, fr, up, own, dfs, rnd⟩ Q := by
 subst hset
 subst hcs
 subst hz
 exact ARun.aop rfl (AOp.loadOwnT (st := ⟨sz, fr, up, own, dfs, rnd⟩) hagg hp ho hy (by simpa using hs)) hr
theorem R.loadUpT {t t' : TypeId} {p : Operand} {o off : Nat} {y z : AV} {cs cs' : List AV} (hagg : ∀ w, (isAgg t).run P w = .ok false w) (ho : up[o]? = some (.cells t' cs)) (hr : ARun P d ops rest ⟨sz, A5 s y fr, up.set o (.cells t' cs'), own, dfs, rnd⟩ Q)
  (hp : A8 fr p = .ptr o off := by exact sL0) (hy : cs[off]? = some y := by rfl) (hz : y.strip = z := by exact sL0) (hcs : cs.set off z = cs' := by exact sL0) (hs : Nat.blt s sz = true := by rfl) :
  ARun P d ops (⟨some s, .load t p, ty, pos, aft, none⟩ :: rest) ⟨sz, fr, up, own, dfs, rnd⟩ Q := by
 subst hcs
 subst hz
 exact ARun.aop rfl (AOp.loadUpT (st := ⟨sz, fr, up, own, dfs, rnd⟩) hagg hp ho hy (by simpa using hs)) hr
theorem R.build {t : TypeId} {fs : Array Field} {places : Array (Nat × Nat)} {parts : List (Nat × Operand)} {z : Value} {zs cs : List AV} {ys : List (Nat × AV)} (hu : P.underlying t = some (.struct fs))
  (hpl : ∀ w, (fs.mapM (m := Sem) fun f => do Pure.pure (f.offset, ← Go.sizeOf f.type)).run P w = .ok places w) (hz : ∀ w, (zeroValue t).run P w = .ok z w) (hr : ARun P d ops rest ⟨sz, A5 s (.agg cs) fr, up, own, dfs, rnd⟩ Q)
  (hzs : z.cells.toList.map Ci = zs := by exact sL0) (hone : zs.all AV.one = true := by exact sL4) (hys : (parts.map fun p => (p.1, A8 fr p.2)) = ys := by exact sL0)
  (hf : H1 (fun i => places[i]?) zs ys = some cs := by simp [H1, go_sem] <;> rfl) (hs : Nat.blt s sz = true := by rfl) :
  ARun P d ops (⟨some s, .build t parts.toArray, ty, pos, aft, none⟩ :: rest) ⟨sz, fr, up, own, dfs, rnd⟩ Q := by
 subst hys
 exact ARun.vv rfl rfl hs (OpV.build hu hpl hz hzs.symm hone hf) hr
theorem R.buildSlice {len : Nat} {z : Value} (hu : P.underlying t = some (.slice e)) (hsz : ∀ w, (Go.sizeOf e).run P w = .ok k w) (hz : ∀ w, (zeroValue e).run P w = .ok z w)
  (hr : ARun P d ops rest ⟨sz, A5 s (.slice true k ys) fr, up, own, dfs, rnd⟩ Q) (hp : parts.toArray = (((parts.map Prod.snd).zipIdx).map fun x => (x.2, x.1)).toArray := by rfl) (hev : (parts.map Prod.snd).map (A8 fr) = ys := by exact sL0)
  (hk : ys.all (fun y => decide (y.cells.length = k) && y.cells.all AV.one) = true := by simp [go_sem]) (hl : len = ys.length := by rfl) (hlen : ys.length * k ≤ 16777216 := by exact sL3) (hs : Nat.blt s sz = true := by rfl) :
  ARun P d ops (⟨some s, .buildSlice t len parts.toArray, ty, pos, aft, none⟩ :: rest) ⟨sz, fr, up, own, dfs, rnd⟩ Q := by
 have h2 : ∀ y ∈ ys, y.cells.length = k ∧ y.cells.all AV.one = true := fun y hy => by simpa using List.all_eq_true.1 hk y hy
 exact ARun.aop rfl (AOp.buildSlice (st := ⟨sz, fr, up, own, dfs, rnd⟩) hu hsz hz hev (fun y hy => (h2 y hy).1) (fun y hy c hc => List.all_eq_true.1 (h2 y hy).2 c hc) hlen (by simpa using hs) hl hp) hr
theorem R.append {t e : TypeId} {i : TypeInfo} {z : Value} {k r : Nat} {x : Operand} {o2 : Bool} {b z' y : AV} {xs ys zs : List AV} (hu : P.underlying t = some (.slice e)) (hi : P.info? e = some i) (hl : (xs.length + ys.length) * i.bytes ≤ 140737488355328) (hl2 : xs.length + ys.length ≤ 4611686018427387904)
  (hr : ARun P d ops rest ⟨sz, A5 s (.slice true k zs) (A5 r z' fr), up, own, dfs, rnd⟩ Q)
  (hz : i.zero = some z := by rfl) (hsz : i.size = k := by rfl) (hzk : z.cells.size = k := by rfl) (hk : 0 < k := by decide) (hb : fr r = b := by exact sL0) (hb' : F9 b true k xs := by first | exact .inl rfl | exact .inr ⟨rfl, rfl⟩)
  (hx : A8 fr x = y := by exact sL0) (hx' : F9 y o2 k ys := by first | exact .inl rfl | exact .inr ⟨rfl, rfl⟩) (hrs : s ≠ r := by decide) (hz' : b.strip = z' := by exact sL0) (hzs : xs ++ ys = zs := by first | rfl | (simp only [go_sem, ↓reduceIte, Nat.reduceEqDiff, Nat.reduceAdd] <;> rfl)) (hs : Nat.blt s sz = true := by rfl) :
  ARun P d ops (⟨some s, .call ⟨.builtin .append, #[.tmp r, x], #[t, t]⟩, ty, pos, aft, none⟩ :: rest) ⟨sz, fr, up, own, dfs, rnd⟩ Q := by
 subst hzs
 subst hz'
 subst hb
 subst hx
 exact ARun.aop rfl (AOp.append (st := ⟨sz, fr, up, own, dfs, rnd⟩) hu hi hz hsz rfl hzk hk hb' hx' hrs (by simpa using hs) hl hl2) hr
theorem R.makeFunc {f : Fn} {as cs : List Operand} {ya yc : List AV} (hr : ARun P d ops rest ⟨sz, A5 s (.fn f ya yc) fr, up, own, dfs, rnd⟩ Q) (ha : as.map (A8 fr) = ya := by exact sL0) (hc : cs.map (A8 fr) = yc := by exact sL0) (hs : Nat.blt s sz = true := by rfl) :
  ARun P d ops (⟨some s, .makeFunc f as.toArray cs.toArray, ty, pos, aft, none⟩ :: rest) ⟨sz, fr, up, own, dfs, rnd⟩ Q := ARun.vv rfl rfl hs (OpV.makeFunc ha hc) hr
/-- A call of a function that leaves the objects alone. -/
theorem R.call {g : FuncId} {xs : List Operand} {ats : Array TypeId} (hcall : ∀ args w, (callFunc g args).run P w = .ok (.enter g args) w) (h : AFun P g args (up ++ own) r) (hr : ARun P d ops rest ⟨sz, A5 s r fr, up, own, dfs, rnd⟩ Q)
  (ha : xs.map (A8 fr) = args := by exact sL0) (hs : Nat.blt s sz = true := by rfl) :
  ARun P d ops (⟨some s, .call ⟨.value (.func g), xs.toArray, ats⟩, ty, pos, aft, none⟩ :: rest) ⟨sz, fr, up, own, dfs, rnd⟩ Q :=
 ARun.aop rfl (AOp.callF (st := ⟨sz, fr, up, own, dfs, rnd⟩) (first := []) (caps := []) hcall rfl (by rw [← ha]; simp [St.ev] <;> rfl) h (by simpa using hs)) hr
theorem G.call {g : FuncId} {xs : List Operand} {ats : Array TypeId} {args : List AV} {r r' : AV} {oj : Oper} {j q : Nat} {want C : Bool} (hcall : ∀ args w, (callFunc g args).run P w = .ok (.enter g args) w) (h : C = true → AFun P g args (up ++ own) r)
  (hr : ARun P d ops rest ⟨sz, A5 s (gAV C r') fr, up, own, dfs, rnd⟩ Q) (hj : ops[j]? = some oj := by rfl) (hdj : oj.dst = some q := by rfl) (hgs : GIs (fr q) want C := by exact sL2)
  (ha : UgL C (xs.map (A8 fr)) args := by exact sL5) (hr' : r.strip = r' := by exact sL0) (hs : Nat.blt s sz = true := by rfl) :
  ARun P d ops (⟨some s, .call ⟨.value (.func g), xs.toArray, ats⟩, ty, pos, aft, some (j, want)⟩ :: rest) ⟨sz, fr, up, own, dfs, rnd⟩ Q := by
 subst hr'
 exact ARun.guardC rfl hj hdj hgs rfl hs (fun hB => OpV.call (first := []) (caps := []) hcall rfl (by rw [← ha.out hB]; simp [St.ev] <;> rfl) (h hB)) hr
theorem G.pickAnd {y : Operand} (hr : ARun P d ops rest ⟨sz, A5 s (gAV C (.v (.bool (B && A)))) fr, up, own, dfs, rnd⟩ Q) (hj : ops[j]? = some oj := by rfl) (hdj : oj.dst = some g := by rfl) (hgs : GIs (fr g) want C := by exact sL2) (hc : A8 fr c = gAV C (.v (.bool B)) := by exact sL0) (hx : A8 fr x = gAV (C && (B == true)) (.v (.bool A)) := by exact sL0) (hy : A8 fr y = .v (.bool false) := by exact sL0) (hs : Nat.blt s sz = true := by rfl) :
  ARun P d ops (⟨some s, .pick c x y, ty, pos, aft, some (j, want)⟩ :: rest) ⟨sz, fr, up, own, dfs, rnd⟩ Q := ARun.guardC rfl hj hdj hgs rfl hs (fun hB => OpV.pickAndC hB hc hx hy) hr
theorem G.pickOr {y : Operand} (hr : ARun P d ops rest ⟨sz, A5 s (gAV C (.v (.bool (B || A)))) fr, up, own, dfs, rnd⟩ Q) (hj : ops[j]? = some oj := by rfl) (hdj : oj.dst = some g := by rfl) (hgs : GIs (fr g) want C := by exact sL2) (hc : A8 fr c = gAV C (.v (.bool B)) := by exact sL0) (hx : A8 fr x = .v (.bool true) := by exact sL0) (hy : A8 fr y = gAV (C && (B == false)) (.v (.bool A)) := by exact sL0) (hs : Nat.blt s sz = true := by rfl) :
  ARun P d ops (⟨some s, .pick c x y, ty, pos, aft, some (j, want)⟩ :: rest) ⟨sz, fr, up, own, dfs, rnd⟩ Q := ARun.guardC rfl hj hdj hgs rfl hs (fun hB => OpV.pickOrC hB hc hx hy) hr
theorem Tp {l : List Oper} {o : Oper} {f fr : Nat → AV} {xs : List Operand} (hf : ∀ t ∈ lk l o, f t = fr t) (hm : ∀ x ∈ xs, x ∈ o.op.operands.toList) : xs.map (A8 f) = xs.map (A8 fr) := List.map_congr_left fun x hx => agr hf (hm x hx)
theorem D.call {g : FuncId} {xs : List Operand} {ats : Array TypeId} {args : List AV} {r r' : AV} (hcall : ∀ args w, (callFunc g args).run P w = .ok (.enter g args) w) (h : AFun P g args (up ++ own) r) (hr : ADraw P d l0 sz up own dfs rnd E kd rest (A5 s r' fr))
  (ha : xs.map (A8 fr) = args := by exact sL0) (hr' : r.strip = r' := by exact sL0) (hs : Nat.blt s sz = true := by rfl) :
  ADraw P d l0 sz up own dfs rnd E (kd + 1) (⟨some s, .call ⟨.value (.func g), xs.toArray, ats⟩, ty, pos, aft, none⟩ :: rest) fr := by
 subst hr'
 exact ⟨s, _, rfl, by simpa using hs, fun f0 hag => OpV.call (first := []) (caps := []) hcall rfl (by rw [← ha, ← Tp hag (fun x hx => by simp [Op.operands, Call.operands, hx])]; simp [St.ev] <;> rfl) h, hr⟩
theorem H.call {g : FuncId} {xs : List Operand} {ats : Array TypeId} {args : List AV} {r r' : AV} {oj : Oper} {j q : Nat} {want C : Bool} (hcall : ∀ args w, (callFunc g args).run P w = .ok (.enter g args) w) (h : C = true → AFun P g args (up ++ own) r)
  (hr : ADraw P d l0 sz up own dfs rnd E kd rest (A5 s (gAV C r') fr)) (hj : l0[j]? = some oj := by rfl) (hdj : oj.dst = some q := by rfl) (hgs : GIs (fr q) want C := by exact sL2)
  (ha : UgL C (xs.map (A8 fr)) args := by exact sL5) (hr' : r.strip = r' := by exact sL0) (hs : Nat.blt s sz = true := by rfl) :
  ADraw P d l0 sz up own dfs rnd E (kd + 1) (⟨some s, .call ⟨.value (.func g), xs.toArray, ats⟩, ty, pos, aft, some (j, want)⟩ :: rest) fr := by
 subst hr'
 exact ⟨s, _, rfl, by simpa using hs, ⟨oj, q, C, _, hj, hdj, hgs, rfl, fun hB f0 hag => OpV.call (first := []) (caps := []) hcall rfl (by rw [← ha.out hB, ← Tp hag (fun x hx => by simp [Op.operands, Call.operands, hx])]; simp [St.ev] <;> rfl) (h hB)⟩, hr⟩
theorem D.build {t : TypeId} {fs : Array Field} {places : Array (Nat × Nat)} {parts : List (Nat × Operand)} {z : Value} {zs cs : List AV} {ys : List (Nat × AV)} (hu : P.underlying t = some (.struct fs))
  (hpl : ∀ w, (fs.mapM (m := Sem) fun f => do Pure.pure (f.offset, ← Go.sizeOf f.type)).run P w = .ok places w) (hz : ∀ w, (zeroValue t).run P w = .ok z w) (hr : ADraw P d l0 sz up own dfs rnd E kd rest (A5 s (.agg cs) fr))
  (hzs : z.cells.toList.map Ci = zs := by exact sL0) (hone : zs.all AV.one = true := by exact sL4) (hys : (parts.map fun p => (p.1, A8 fr p.2)) = ys := by exact sL0)
  (hf : H1 (fun i => places[i]?) zs ys = some cs := by simp [H1, go_sem] <;> rfl) (hs : Nat.blt s sz = true := by rfl) :
  ADraw P d l0 sz up own dfs rnd E (kd + 1) (⟨some s, .build t parts.toArray, ty, pos, aft, none⟩ :: rest) fr := by
 subst hys
 refine ⟨s, _, rfl, by simpa using hs, fun f0 hag => ?_, hr⟩
 have e : (parts.map fun p => (p.1, A8 fr p.2)) = (parts.map fun p => (p.1, A8 f0 p.2)) := List.map_congr_left fun p hp => by rw [agr hag (by simp [Op.operands]; exact ⟨_, hp⟩)]
 rw [e] at hf
 exact OpV.build hu hpl hz hzs.symm hone hf
theorem D.tail {l : List Oper} (h : ARun P d l0.toArray l ⟨sz, fr, up, own, dfs, rnd⟩ Q) : ADraw P d l0 sz up own dfs rnd (fun l' f => ARun P d l0.toArray l' ⟨sz, f, up, own, dfs, rnd⟩ Q) 0 l fr := h
theorem D.end {l l' : List Oper} {F : Nat → AV} (hl : l = l') (hF : fr = F) : ADraw P d l0 sz up own dfs rnd (fun l1 f => l1 = l' ∧ f = F) 0 l fr := ⟨hl, hF⟩
theorem W.draw {id : Nat} {l : List Oper} {y : Code} {K : Exit → St → Prop} (M : List Nat) (k : Nat) (hm : P.follows .mixedOrders = true) (hok : Hn l k M = true) (h : ADraw P d l sz up own dfs rnd (fun l' f => ARun P d l.toArray l' ⟨sz, f, up, own, dfs, rnd⟩ (fun s => AW P d y s K)) k l fr) :
  AW P d (.seq (.region id l.toArray true) y) ⟨sz, fr, up, own, dfs, rnd⟩ K := AW.seq (AW.draw M hm hok h)
theorem W.draw0 {id : Nat} {l : List Oper} {K : Exit → St → Prop} (M : List Nat) (k : Nat) (hm : P.follows .mixedOrders = true) (hok : Hn l k M = true) (h : ADraw P d l sz up own dfs rnd (fun l' f => ARun P d l.toArray l' ⟨sz, f, up, own, dfs, rnd⟩ (K .normal)) k l fr) :
  AW P d (.region id l.toArray true) ⟨sz, fr, up, own, dfs, rnd⟩ K := AW.draw M hm hok h
/-- A call that turns one cell object: of ours, or of whoever waits. -/
theorem R.callOwn {g : FuncId} {xs : List Operand} {ats : Array TypeId} {args : List AV} {r : AV} {n : Nat} {x x0 : AObj} (hcall : ∀ args w, (callFunc g args).run P w = .ok (.enter g args) w) (h : ACall P g args (up ++ own) (fun y H' => y = r ∧ H' = (up ++ own).set (oid up.length n) x)) (hr : ARun P d ops rest ⟨sz, A5 s r fr, up, own', dfs, rnd⟩ Q)
  (hx0 : own[n]? = some x0 := by rfl) (hx0' : x0 ≠ .defs := by simp) (hset : own.set n x = own' := by exact sL0) (ha : xs.map (A8 fr) = args := by exact sL0) (hs : Nat.blt s sz = true := by rfl) :
  ARun P d ops (⟨some s, .call ⟨.value (.func g), xs.toArray, ats⟩, ty, pos, aft, none⟩ :: rest) ⟨sz, fr, up, own, dfs, rnd⟩ Q := by
 subst hset
 refine ARun.op rfl (AOp.callG (st := ⟨sz, fr, up, own, dfs, rnd⟩) (Q := (· = ⟨sz, A5 s r fr, up, own.set n x, dfs, rnd⟩)) (first := []) (caps := []) hcall rfl (by rw [← ha]; simp [St.ev] <;> rfl) h (by simpa using hs) (fun y H' _ hy => ?_)) (fun s' e => by subst e; exact hr)
 obtain ⟨rfl, rfl⟩ := hy
 refine ⟨up, own.set n x, Al, rfl, fun h => h, fun hd o ho => ?_, rfl⟩
 have := hd o ho
 rw [← Al]
 rw [List.getElem?_set]
 split
 ·rename_i e
  subst e
  rw [Bk, hx0] at this
  injection this with this
  exact absurd this hx0'
 exact this
theorem R.callUp {g : FuncId} {xs : List Operand} {ats : Array TypeId} {args : List AV} {r : AV} {i : Nat} {x x0 : AObj} (hcall : ∀ args w, (callFunc g args).run P w = .ok (.enter g args) w) (hi : up[i]? = some x0) (hx0' : x0 ≠ .defs) (hlow : ObjLow up.length x) (h : ACall P g args (up ++ own) (fun y H' => y = r ∧ H' = (up ++ own).set i x)) (hr : ARun P d ops rest ⟨sz, A5 s r fr, up.set i x, own, dfs, rnd⟩ Q)
  (ha : xs.map (A8 fr) = args := by exact sL0) (hs : Nat.blt s sz = true := by rfl) :
  ARun P d ops (⟨some s, .call ⟨.value (.func g), xs.toArray, ats⟩, ty, pos, aft, none⟩ :: rest) ⟨sz, fr, up, own, dfs, rnd⟩ Q := by
 have hlt := (List.getElem?_eq_some_iff.1 hi).1
 refine ARun.op rfl (AOp.callG (st := ⟨sz, fr, up, own, dfs, rnd⟩) (Q := (· = ⟨sz, A5 s r fr, up.set i x, own, dfs, rnd⟩)) (first := []) (caps := []) hcall rfl (by rw [← ha]; simp [St.ev] <;> rfl) h (by simpa using hs) (fun y H' _ hy => ?_)) (fun s' e => by subst e; exact hr)
 obtain ⟨rfl, rfl⟩ := hy
 refine ⟨up.set i x, own, Bi hlt, by simp, fun h => by simp only [List.length_set] at h ⊢; exact Cy h hlow, fun hd o ho => ?_, rfl⟩
 have := hd o ho
 rw [← Bi hlt, List.getElem?_set]
 split
 ·rename_i e
  subst e
  rw [A6 hi] at this
  injection this with this
  exact absurd this hx0'
 exact this
/-- A call whose contract is any. -/
theorem R.callG {g : FuncId} {xs : List Operand} {ats : Array TypeId} {args : List AV} {post : AV → List AObj → Prop} (hcall : ∀ args w, (callFunc g args).run P w = .ok (.enter g args) w) (h : ACall P g args (up ++ own) post)
  (hp : ∀ r U O, U.length = up.length → post r (U ++ O) → ((∀ x ∈ up, ObjLow U.length x) → ∀ x ∈ U, ObjLow U.length x) ∧ (∀ o ∈ dfs, (up ++ own)[o]? = some .defs → (U ++ O)[o]? = some .defs) ∧ ARun P d ops rest ⟨sz, A5 s r fr, U, O, dfs, rnd⟩ Q)
  (ha : xs.map (A8 fr) = args := by exact sL0) (hs : Nat.blt s sz = true := by rfl) :
  ARun P d ops (⟨some s, .call ⟨.value (.func g), xs.toArray, ats⟩, ty, pos, aft, none⟩ :: rest) ⟨sz, fr, up, own, dfs, rnd⟩ Q := by
 refine ARun.op rfl (AOp.callG (st := ⟨sz, fr, up, own, dfs, rnd⟩) (Q := fun s' => ARun P d ops rest s' Q) (first := []) (caps := []) hcall rfl (by rw [← ha]; simp [St.ev] <;> rfl) h (by simpa using hs) (fun y H' hl hy => ?_)) (fun s' e => e)
 have hl' : up.length ≤ H'.length := by rw [hl]; simp
 have e : H' = H'.take up.length ++ H'.drop up.length := (List.take_append_drop _ _).symm
 rw [e] at hy
 obtain ⟨h1, h2, h3⟩ := hp y _ _ (by simp; omega) hy
 exact ⟨_, _, e, by simp; omega, h1, fun hd o ho => h2 o ho (hd o ho), h3⟩
/-- A call of a function value that leaves the objects alone. -/
theorem R.callV {f : Operand} {xs : List Operand} {ats : Array TypeId} {g : FuncId} {first caps : List AV} (hcall : ∀ args w, (callFunc g args).run P w = .ok (.enter g args) w) (h : AFun P g args (up ++ own) r) (hr : ARun P d ops rest ⟨sz, A5 s r fr, up, own, dfs, rnd⟩ Q)
  (hf : A8 fr f = .fn (.func g) first caps := by exact sL0) (ha : first ++ xs.map (A8 fr) ++ caps = args := by exact sL0) (hs : Nat.blt s sz = true := by rfl) :
  ARun P d ops (⟨some s, .call ⟨.value f, xs.toArray, ats⟩, ty, pos, aft, none⟩ :: rest) ⟨sz, fr, up, own, dfs, rnd⟩ Q :=
 ARun.aop rfl (AOp.callF (st := ⟨sz, fr, up, own, dfs, rnd⟩) hcall hf (by rw [← ha] <;> rfl) h (by simpa using hs)) hr
/-- A call of a round. -/
theorem R.yield {f : Operand} {xs : List Operand} {ats : Array TypeId} {l : Nat} {args : List AV} {post : Bool → List AObj → Prop} (h : AYield P l args (up ++ own) post)
  (hp : ∀ b U O, U.length = up.length → post b (U ++ O) → ((∀ x ∈ up, ObjLow U.length x) → ∀ x ∈ U, ObjLow U.length x) ∧ (∀ o ∈ dfs, (up ++ own)[o]? = some .defs → (U ++ O)[o]? = some .defs) ∧ ARun P d ops rest ⟨sz, A5 s (.v (.bool b)) fr, U, O, dfs, rnd⟩ Q)
  (hf : A8 fr f = .yield l := by exact sL0) (ha : xs.map (A8 fr) = args := by exact sL0) (hs : Nat.blt s sz = true := by rfl) :
  ARun P d ops (⟨some s, .call ⟨.value f, xs.toArray, ats⟩, ty, pos, aft, none⟩ :: rest) ⟨sz, fr, up, own, dfs, rnd⟩ Q := by
 refine ARun.op rfl (AOp.yield (st := ⟨sz, fr, up, own, dfs, rnd⟩) (Q := fun s' => ARun P d ops rest s' Q) hf ha h (by simpa using hs) (fun b H' hl hy => ?_)) (fun s' e => e)
 have hl' : up.length ≤ H'.length := by rw [hl]; simp
 have e : H' = H'.take up.length ++ H'.drop up.length := (List.take_append_drop _ _).symm
 rw [e] at hy
 obtain ⟨h1, h2, h3⟩ := hp b _ _ (by simp; omega) hy
 exact ⟨_, _, e, by simp; omega, h1, fun hd o ho => h2 o ho (hd o ho), h3⟩
/-- A test. -/
theorem W.cond {x y : Code} {K : Exit → St → Prop} (h1 : b = true → AW P d x ⟨sz, fr, up, own, dfs, rnd⟩ K) (h2 : b = false → AW P d y ⟨sz, fr, up, own, dfs, rnd⟩ K) (hc : A8 fr c = .v (.bool b) := by exact sL0) :
  AW P d (.cond c x y) ⟨sz, fr, up, own, dfs, rnd⟩ K := AW.cond (st := ⟨sz, fr, up, own, dfs, rnd⟩) hc h1 h2

/-! ### A function's end -/
@[simp] theorem sr {n : Nat} {x : Value} : Low n (.v x) ↔ True := ⟨fun _ => trivial, fun _ => .v x⟩
@[simp] theorem pv {n : Nat} : Low n .nil ↔ True := ⟨fun _ => trivial, fun _ => .nil⟩
@[simp] theorem pw {n : Nat} : Low n .any ↔ True := ⟨fun _ => trivial, fun _ => .any⟩
@[simp] theorem low_agg {n : Nat} {cs : List AV} : Low n (.agg cs) ↔ ∀ y ∈ cs, Low n y := ⟨fun h => by cases h; assumption, fun h => .agg cs h⟩
@[simp] theorem el {n : Nat} {cs : List AV} : Low n (.tup cs) ↔ ∀ y ∈ cs, Low n y := ⟨fun h => by cases h; assumption, fun h => .tup cs h⟩
@[simp] theorem low_ro {n : Nat} {cs : List AV} : Low n (.ro cs) ↔ ∀ y ∈ cs, Low n y := ⟨fun h => by cases h; assumption, fun h => .ro cs h⟩
theorem low_cells {n : Nat} {x : AV} : (∀ y ∈ x.cells, Low n y) ↔ Low n x := by
 cases x with
 | agg cs => exact ⟨fun h => .agg cs h, fun h => by cases h; assumption⟩
 | _ => simp [AV.cells]
@[simp] theorem low_slice {n : Nat} {o : Bool} {k : Nat} {xs : List AV} : Low n (.slice o k xs) ↔ ∀ x ∈ xs, Low n x :=
 ⟨fun h => by cases h with | slice _ _ _ h => exact fun x hx => low_cells.1 (h x hx), fun h => .slice o k xs fun x hx => low_cells.2 (h x hx)⟩
@[simp] theorem px {n o off : Nat} : Low n (.ptr o off) ↔ o < n := ⟨fun h => by cases h; assumption, fun h => .ptr o off h⟩
@[simp] theorem mo {n o : Nat} : Low n (.yield o) ↔ o < n := ⟨fun h => by cases h; assumption, fun h => .yield o h⟩
@[simp] theorem py {n : Nat} {f : Fn} {as cs : List AV} : Low n (.fn f as cs) ↔ (∀ y ∈ as, Low n y) ∧ ∀ y ∈ cs, Low n y := ⟨fun h => by cases h; exact ⟨by assumption, by assumption⟩, fun h => .fn f as cs h.1 h.2⟩

def FK (P : Program) (rs : List ResultVar) (n : Nat) (post : AV → List AObj → Prop) : Exit → St → Prop := fun e st' => (e = .normal ∨ e = .ret) ∧ ∃ r, Res P st' rs r ∧ Low n r ∧ post r st'.up
theorem ACall.body {g : FuncId} {fn : Func} {c : Code} {H : List AObj} {post : AV → List AObj → Prop} (rs : List ResultVar) (l : List Nat) {n : Nat} (hf : P.funcs[g]? = some fn) (hn : fn.ntmps = n)
  (h : ∀ d, AW P (d + 1) c ⟨n, fr', H, [], [], none⟩ (FK P rs H.length post)) (hb : fn.body = some c := by rfl) (hrs : fn.results = rs.toArray := by rfl) (hargs : args.length ≤ n := by exact sL3)
  (hk : Gp l (argsF args) = fr' := by exact sL0) : ACall P g args H post :=
 ACall.ofBody hf hb hrs hn hargs (fun d => AW.keep l hk (h d))
theorem V.tmp {t : Nat} (h : (fr t).strip = y := by exact sL0) : ResV P ⟨sz, fr, up, own, dfs, rnd⟩ (.tmp t) y := .tmp t y h
theorem V.cell {a n : Nat} (hagg : ∀ w, (isAgg t).run P w = .ok false w) (hp : (fr a).strip = .ptr (oid up.length n) off := by exact sL0)
  (ho : own[n]? = some (.cells t' cs) := by rfl) (hy : cs[off]? = some y := by rfl) (h : y.strip = y' := by exact sL0) : ResV P ⟨sz, fr, up, own, dfs, rnd⟩ (.cell a t) y' :=
 .cell a t t' _ off cs y hagg hp (by show (up ++ own)[up.length + n]? = _; rw [Bk]; exact ho) hy y' h
theorem V.cellN {a n : Nat} (hagg : ∀ w, (isAgg t).run P w = .ok true w) (hsz : ∀ w, (Go.sizeOf t).run P w = .ok k w) (hp : (fr a).strip = .ptr (oid up.length n) off := by exact sL0)
  (ho : own[n]? = some (.cells t' cs) := by rfl) (hk : off + k ≤ cs.length := by exact sL3) (h1 : ((cs.drop off).take k).all AV.one = true := by exact sL4)
  (h : ((cs.drop off).take k).map AV.strip = cs' := by exact sL0) : ResV P ⟨sz, fr, up, own, dfs, rnd⟩ (.cell a t) (.agg cs') :=
 .cellN a t t' _ off k cs hagg hsz hp (by show (up ++ own)[up.length + n]? = _; rw [Bk]; exact ho) hk h1 _ (by rw [h])
theorem V.one {rv : ResultVar} (h : ResV P ⟨sz, fr, up, own, dfs, rnd⟩ rv y) : Res P ⟨sz, fr, up, own, dfs, rnd⟩ [rv] y := .one rv y h
theorem V.two (h1 : ResV P ⟨sz, fr, up, own, dfs, rnd⟩ r1 y1) (h2 : ResV P ⟨sz, fr, up, own, dfs, rnd⟩ r2 y2) : Res P ⟨sz, fr, up, own, dfs, rnd⟩ [r1, r2] (.tup [y1, y2]) := .two _ _ _ _ h1 h2
theorem V.three {r3 : ResultVar} {y3 : AV} (h1 : ResV P ⟨sz, fr, up, own, dfs, rnd⟩ r1 y1) (h2 : ResV P ⟨sz, fr, up, own, dfs, rnd⟩ r2 y2) (h3 : ResV P ⟨sz, fr, up, own, dfs, rnd⟩ r3 y3) : Res P ⟨sz, fr, up, own, dfs, rnd⟩ [r1, r2, r3] (.tup [y1, y2, y3]) := .three _ _ _ _ _ _ h1 h2 h3
theorem V.four {r3 r4 : ResultVar} {y3 y4 : AV} (h1 : ResV P ⟨sz, fr, up, own, dfs, rnd⟩ r1 y1) (h2 : ResV P ⟨sz, fr, up, own, dfs, rnd⟩ r2 y2) (h3 : ResV P ⟨sz, fr, up, own, dfs, rnd⟩ r3 y3) (h4 : ResV P ⟨sz, fr, up, own, dfs, rnd⟩ r4 y4) : Res P ⟨sz, fr, up, own, dfs, rnd⟩ [r1, r2, r3, r4] (.tup [y1, y2, y3, y4]) := .four _ _ _ _ _ _ _ _ h1 h2 h3 h4
end Go.SX
namespace Go.SX
variable [GI : GlobInv]
open Classical
variable {k : IntKind} {m n : Int} {t u : TypeId} {x y : Operand}
section
variable {P : Program} {d : Nat} {st : St} {dst : Option Tmp} {ty : TypeId} {pos : String} {aft : Array Edge} {gd : Option (Nat × Bool)}
theorem OpV.minI {t u : TypeId} {x y : Operand} {k : IntKind} {m n : Int} (hx : st.ev x = .v (.int k m)) (hy : st.ev y = .v (.int k n)) : OpV P d ⟨dst, .call ⟨.builtin .min, #[x, y], #[t, u]⟩, ty, pos, aft, gd⟩ st (.v (.int k (if n < m then n else m))) :=
 OpV.pure (by intro c h; cases h) fun _ a w h => ⟨_, by simp [execOp, resolve, invoke, builtin, Cd h hx, Cd h hy, Builtin.min_, Builtin.min2], .v _ _⟩
theorem OpV.maxI {t u : TypeId} {x y : Operand} {k : IntKind} {m n : Int} (hx : st.ev x = .v (.int k m)) (hy : st.ev y = .v (.int k n)) : OpV P d ⟨dst, .call ⟨.builtin .max, #[x, y], #[t, u]⟩, ty, pos, aft, gd⟩ st (.v (.int k (if m < n then n else m))) :=
 OpV.pure (by intro c h; cases h) fun _ a w h => ⟨_, by simp [execOp, resolve, invoke, builtin, Cd h hx, Cd h hy, Builtin.max_, Builtin.max2], .v _ _⟩
end
variable {P : Program} {d : Nat} {l0 : List Oper} {kd : Nat} {ops : Array Oper} {rest : List Oper} {sz : Nat} {fr fr' : Nat → AV} {up own own' up' : List AObj} {dfs : List Nat} {rnd : Option Nat} {Q : St → Prop} {E : List Oper → (Nat → AV) → Prop} {s : Nat} {ty : TypeId} {pos : String} {aft : Array Edge}
theorem R.minI (hr : ARun P d ops rest ⟨sz, A5 s (.v (.int k (if n < m then n else m))) fr, up, own, dfs, rnd⟩ Q) (hx : A8 fr x = .v (.int k m) := by exact sL0) (hy : A8 fr y = .v (.int k n) := by exact sL0)  (hs : Nat.blt s sz = true := by rfl) :
  ARun P d ops (⟨some s, .call ⟨.builtin .min, #[x, y], #[t, u]⟩, ty, pos, aft, none⟩ :: rest) ⟨sz, fr, up, own, dfs, rnd⟩ Q :=
 ARun.vv rfl rfl hs (OpV.minI hx hy) hr
theorem R.maxI (hr : ARun P d ops rest ⟨sz, A5 s (.v (.int k (if m < n then n else m))) fr, up, own, dfs, rnd⟩ Q) (hx : A8 fr x = .v (.int k m) := by exact sL0) (hy : A8 fr y = .v (.int k n) := by exact sL0)  (hs : Nat.blt s sz = true := by rfl) :
  ARun P d ops (⟨some s, .call ⟨.builtin .max, #[x, y], #[t, u]⟩, ty, pos, aft, none⟩ :: rest) ⟨sz, fr, up, own, dfs, rnd⟩ Q :=
 ARun.vv rfl rfl hs (OpV.maxI hx hy) hr
end Go.SX
set_option autoImplicit false
set_option relaxedAutoImplicit false
namespace Go.SX
variable [GI : GlobInv]
open Classical
section
variable {P : Program} {d : Nat} {dst : Option Tmp} {ty : TypeId} {pos : String} {aft : Array Edge} {gd : Option (Nat × Bool)} {st : St}
end
end Go.SX
namespace Go.SX
variable [GI : GlobInv]
open Classical
variable {F1 F2 f fr : Nat → AV} {id : Nat} {l l2 l3 : List Oper} {oe : Oper}
section
variable {P : Program} {d : Nat}
variable {sz : Nat} {up own up' own' : List AObj} {dfs : List Nat} {rnd : Option Nat}

theorem Ie : ∀ (D : List (Nat × AV)) (i j : Nat) (f : Nat → AV), frL (fun _ => true) i D f = frL (fun _ => true) j D f
 | [], _, _, _ => rfl
 | x :: r, i, j, f => by unfold frL; exact Ie r _ _ _
theorem Hr (L : Nat → Bool) (i : Nat) (x : Nat × AV) (r : List (Nat × AV)) (f : Nat → AV) : frL L i (x :: r) f = frL L (i + 1) r (if L i then A5 x.1 x.2 f else f) := rfl
theorem Pz : ∀ (A B : List (Nat × AV)) (i : Nat) (f : Nat → AV), frL (fun _ => true) i (A ++ B) f = frL (fun _ => true) 0 B (frL (fun _ => true) i A f)
 | [], B, i, f => Ie B i 0 f
 | x :: r, B, i, f => by
  rw [List.cons_append, Hr, Hr]
  exact Pz r B (i + 1) _
/-- Of what is drawn, what stands in each slot at the end tells what each yields. -/
theorem K8 {D D' : List (Nat × AV)} (hn : D.length = D'.length) (hs : ∀ (i s s' : Nat) (y y' : AV), D[i]? = some (s, y) → D'[i]? = some (s', y') → s = s')
  (hu : ∀ (i j s : Nat) (y y' : AV), D[i]? = some (s, y) → D[j]? = some (s, y') → i = j) (he : frL (fun _ => true) 0 D f = frL (fun _ => true) 0 D' f) : D = D' := by
 apply List.ext_getElem?
 intro i
 by_cases hi : i < D.length
 ·have e1 : D[i]? = some D[i] := List.getElem?_eq_getElem hi
  have e2 : D'[i]? = some (D'[i]'(by omega)) := List.getElem?_eq_getElem (by omega)
  have hss := hs i D[i].1 (D'[i]'(by omega)).1 _ _ e1 e2
  have hu' : ∀ (j s : Nat) (y : AV), D'[j]? = some (s, y) → s = (D'[i]'(by omega)).1 → j = i := by
   intro j s y hj hsj
   have hjl := (List.getElem?_eq_some_iff.1 hj).1
   have e3 : D[j]? = some (D[j]'(by omega)) := List.getElem?_eq_getElem (by omega)
   have h3 := hs j (D[j]'(by omega)).1 s _ _ e3 hj
   refine hu j i D[i].1 (D[j]'(by omega)).2 _ ?_ e1
   rw [e3, hss, ← hsj, ← h3]
  have v1 : frL (fun _ => true) 0 D f D[i].1 = D[i].2 := Cq (L := fun _ => true) D 0 i f e1 rfl (fun j y hj => hu j i _ _ _ hj e1)
  have v2 : frL (fun _ => true) 0 D' f (D'[i]'(by omega)).1 = (D'[i]'(by omega)).2 := Cq (L := fun _ => true) D' 0 i f e2 rfl (fun j y hj => hu' j _ y hj rfl)
  rw [e1, e2, Prod.ext_iff.2 ⟨hss, by rw [← v1, ← v2, he, hss]⟩]
 rw [List.getElem?_eq_none (by omega), List.getElem?_eq_none (by omega)]

/-- What is asked of the one that turns the heap, of the text alone. se: the slot that it writes; where it writes none, one that nobody looks at. -/
def okX (sz : Nat) (l : List Oper) (oe : Oper) (se : Nat) : Bool := oe.guard.isNone && match oe.dst with
 | some s => Nat.beq s se && Nat.blt s sz
 | none => Nat.ble sz se && l.all fun o => !(lk l o).elem se

/-- **A region whose order is drawn, with one operation that turns the heap in whatever place among those drawn.** -/
theorem AW.drawX {id k ei n2 : Nat} {l l2 l3 : List Oper} {oe : Oper} {se : Nat} {ye : AV} {fr F1 F2 : Nat → AV} {K : Exit → St → Prop} (M : List Nat) (hm : P.follows .mixedOrders = true) (hok : Hn l k M = true)
  (hx : okX sz l oe se = true) (hlen : up'.length = up.length) (hk : ei + 1 + n2 = k)
  (h1 : ∀ b : Bool, ADraw P d l sz (bif b then up' else up) (bif b then own' else own) dfs rnd (fun l' f => l' = oe :: l2 ∧ f = F1) ei l fr)
  (h2 : ∀ b : Bool, ADraw P d l sz (bif b then up' else up) (bif b then own' else own) dfs rnd (fun l' f => l' = l3 ∧ f = F2) n2 l2 (A5 se ye F1))
  (hE : ∀ f, (∀ t, (lk l oe).elem t = true → f t = F1 t) → AOp P d oe ⟨sz, f, up, own, dfs, rnd⟩ (· = ⟨sz, A5 se ye f, up', own', dfs, rnd⟩))
  (h : ARun P d l.toArray l3 ⟨sz, F2, up', own', dfs, rnd⟩ (K .normal)) :
  AW P d (.region id l.toArray true) ⟨sz, fr, up, own, dfs, rnd⟩ K := by
 have ok := L1 hok
 obtain ⟨D1, hD1, hk1, ho1, hl1, hF1⟩ := ADraw.data ei l fr (h1 true)
 obtain ⟨D1', hD1', _, ho1', _, hF1'⟩ := ADraw.data ei l fr (h1 false)
 obtain ⟨D2, hD2, hk2, ho2, hl2, hF2⟩ := ADraw.data n2 l2 _ (h2 true)
 obtain ⟨D2', hD2', _, ho2', _, hF2'⟩ := ADraw.data n2 l2 _ (h2 false)
 have hll : l = l.take ei ++ oe :: l2 := by rw [← hl1, List.take_append_drop]
 have hoe : l[ei]? = some oe := by
  have := congrArg (·[0]?) hl1
  simpa using this
 have hl2' : ∀ j, l2[j]? = l[ei + 1 + j]? := fun j => by
  have := congrArg (·[j + 1]?) hl1
  simp only [List.getElem?_drop, List.getElem?_cons_succ] at this
  rw [← this]
  congr 1
  omega
 have hll2 : l2.length = l.length - (ei + 1) := by
  have := congrArg List.length hl1
  simp at this
  omega
 have hel := (List.getElem?_eq_some_iff.1 hoe).1
 have hek : ei < k := by omega
 have hkl : k ≤ l.length := by omega
 -- the same is yielded on either heap
 have same1 : D1 = D1' := by
  refine K8 (f := fr) (by omega) (fun i s s' y y' e1 e2 => ?_) (fun i j s y y' e1 e2 => ?_) (by rw [hF1, hF1'])
  ·have hi := (List.getElem?_eq_some_iff.1 e1).1
   have hz : l[i]? = some (l[i]'(by omega)) := List.getElem?_eq_getElem (by omega)
   obtain ⟨a, b, c1, c2, _⟩ := ho1 i _ (by omega) hz
   obtain ⟨a', b', c1', c2', _⟩ := ho1' i _ (by omega) hz
   rw [e1] at c1; rw [e2] at c1'; rw [c2] at c2'
   simp only [Option.some.injEq, Prod.mk.injEq] at c1 c1' c2'
   omega
  have hi := (List.getElem?_eq_some_iff.1 e1).1
  have hj := (List.getElem?_eq_some_iff.1 e2).1
  have hz : l[i]? = some (l[i]'(by omega)) := List.getElem?_eq_getElem (by omega)
  have hz' : l[j]? = some (l[j]'(by omega)) := List.getElem?_eq_getElem (by omega)
  obtain ⟨a, b, c1, c2, _⟩ := ho1 i _ (by omega) hz
  obtain ⟨a', b', c1', c2', _⟩ := ho1 j _ (by omega) hz'
  rw [e1] at c1; rw [e2] at c1'
  simp only [Option.some.injEq, Prod.mk.injEq] at c1 c1'
  refine ok.uniq j i _ _ (by omega) (by omega) hz' hz ?_
  rw [c2, c2', ← c1.1, ← c1'.1]
 have same2 : D2 = D2' := by
  refine K8 (f := A5 se ye F1) (by omega) (fun i s s' y y' e1 e2 => ?_) (fun i j s y y' e1 e2 => ?_) (by rw [hF2, hF2'])
  ·have hi := (List.getElem?_eq_some_iff.1 e1).1
   have hz : l2[i]? = some (l2[i]'(by omega)) := List.getElem?_eq_getElem (by omega)
   obtain ⟨a, b, c1, c2, _⟩ := ho2 i _ (by omega) hz
   obtain ⟨a', b', c1', c2', _⟩ := ho2' i _ (by omega) hz
   rw [e1] at c1; rw [e2] at c1'; rw [c2] at c2'
   simp only [Option.some.injEq, Prod.mk.injEq] at c1 c1' c2'
   omega
  have hi := (List.getElem?_eq_some_iff.1 e1).1
  have hj := (List.getElem?_eq_some_iff.1 e2).1
  have hz : l2[i]? = some (l2[i]'(by omega)) := List.getElem?_eq_getElem (by omega)
  have hz' : l2[j]? = some (l2[j]'(by omega)) := List.getElem?_eq_getElem (by omega)
  obtain ⟨a, b, c1, c2, _⟩ := ho2 i _ (by omega) hz
  obtain ⟨a', b', c1', c2', _⟩ := ho2 j _ (by omega) hz'
  rw [e1] at c1; rw [e2] at c1'
  simp only [Option.some.injEq, Prod.mk.injEq] at c1 c1'
  rw [hl2'] at hz hz'
  have := ok.uniq (ei + 1 + j) (ei + 1 + i) _ _ (by omega) (by omega) hz' hz (by rw [c2, c2', ← c1.1, ← c1'.1])
  omega
 subst same1
 subst same2
 obtain ⟨D, hDd⟩ : ∃ D, D = D1 ++ (se, ye) :: D2 := ⟨_, rfl⟩
 have hD : D.length = k := by rw [hDd]; simp; omega
 have hDe : D[ei]? = some (se, ye) := by rw [hDd, List.getElem?_append_right (by omega), hD1]; simp
 have htk : ∀ i, i ≤ ei → D.take i = D1.take i := fun i hi => by rw [hDd, List.take_append_of_le_length (by omega)]
 have htke : frL (fun _ => true) 0 (D.take ei) fr = F1 := by rw [htk ei (Nat.le_refl _), List.take_of_length_le (by omega), hF1]
 have hops : ∀ (i : Nat) (o : Oper), i < k → i ≠ ei → l[i]? = some o → ∃ s y, D[i]? = some (s, y) ∧ o.dst = some s ∧ s < sz ∧ ∀ b : Bool, OpD P d l o sz (frL (fun _ => true) 0 (D.take i) fr) (bif b then up' else up) (bif b then own' else own) dfs rnd y := by
  intro i o hi hne ho
  by_cases hlt : i < ei
  ·obtain ⟨s, y, c1, c2, c3, c4⟩ := ho1 i o hlt ho
   obtain ⟨s', y', c1', _, _, c4'⟩ := ho1' i o hlt ho
   rw [c1] at c1'
   simp only [Option.some.injEq, Prod.mk.injEq] at c1'
   obtain ⟨rfl, rfl⟩ := c1'
   refine ⟨s, y, by rw [hDd, List.getElem?_append_left (by omega)]; exact c1, c2, c3, fun b => ?_⟩
   rw [htk i (by omega)]
   cases b
   ·exact c4'
   exact c4
  obtain ⟨j, rfl⟩ : ∃ j, i = ei + 1 + j := ⟨i - ei - 1, by omega⟩
  rw [← hl2'] at ho
  obtain ⟨s, y, c1, c2, c3, c4⟩ := ho2 j o (by omega) ho
  obtain ⟨s', y', c1', _, _, c4'⟩ := ho2' j o (by omega) ho
  rw [c1] at c1'
  simp only [Option.some.injEq, Prod.mk.injEq] at c1'
  obtain ⟨rfl, rfl⟩ := c1'
  have hf : frL (fun _ => true) 0 (D.take (ei + 1 + j)) fr = frL (fun _ => true) 0 (D2.take j) (A5 se ye F1) := by
   rw [hDd, List.take_append, List.take_of_length_le (by omega), hD1, show ei + 1 + j - ei = j + 1 by omega, List.take_succ_cons, Pz, hF1]
   rw [Hr, if_pos rfl]
   exact Ie _ _ _ _
  refine ⟨s, y, by rw [hDd, List.getElem?_append_right (by omega), hD1, show ei + 1 + j - ei = j + 1 by omega]; exact c1, c2, c3, fun b => ?_⟩
  rw [hf]
  cases b
  ·exact c4'
  exact c4
 have hFF : frL (fun _ => true) 0 D fr = F2 := by
  rw [hDd, Pz, hF1, Hr, if_pos rfl]
  exact (Ie _ _ _ _).trans hF2
 have hl3 : l.drop k = l3 := by
  rw [← hl2, ← hk]
  apply List.ext_getElem?
  intro j
  rw [List.getElem?_drop, List.getElem?_drop, hl2']
  congr 1
  omega
 have hge : oe.guard = none := by
  unfold okX at hx
  simp only [Bool.and_eq_true] at hx
  simpa using hx.1
 have hse : (oe.dst = some se ∧ se < sz) ∨ (oe.dst = none ∧ sz ≤ se ∧ ∀ o ∈ l, se ∉ lk l o) := by
  unfold okX at hx
  simp only [Bool.and_eq_true] at hx
  cases hd : oe.dst with
  | some s =>
   have := hx.2
   simp only [hd, Bool.and_eq_true] at this
   have e := Nat.eq_of_beq_eq_true this.1
   subst e
   exact .inl ⟨rfl, by simpa using this.2⟩
  | none =>
   have := hx.2
   simp only [hd, Bool.and_eq_true] at this
   refine .inr ⟨rfl, Nat.le_of_ble_eq_true this.1, fun o ho hm => ?_⟩
   have h := List.all_eq_true.1 this.2 o ho
   rw [List.elem_iff.2 hm] at h
   cases h
 have hall' : ∀ (i : Nat) (o : Oper), i < k → l[i]? = some o → ∃ s y, D[i]? = some (s, y) ∧ ((o.dst = some s ∧ s < sz) ∨ (sz ≤ s ∧ ∀ o' ∈ l, s ∉ lk l o')) := by
  intro i o hi ho
  by_cases hie : i = ei
  ·subst hie
   have : o = oe := by rw [hoe] at ho; injection ho with ho; exact ho.symm
   subst this
   exact ⟨se, ye, hDe, hse.imp (fun h => h) (fun h => h.2)⟩
  obtain ⟨s, y, c1, c2, c3, _⟩ := hops i o hi hie ho
  exact ⟨s, y, c1, .inl ⟨c2, c3⟩⟩
 have hrest : ARun P d l.toArray (l.drop k) ⟨sz, frL (fun _ => true) 0 D fr, up', own', dfs, rnd⟩ (K .normal) := by rw [hl3, hFF]; exact h
 replace hE : ∀ f, (∀ t, (lk l oe).elem t = true → f t = frL (fun _ => true) 0 (D.take ei) fr t) → AOp P d oe ⟨sz, f, up, own, dfs, rnd⟩ (· = ⟨sz, A5 se ye f, up', own', dfs, rnd⟩) := by rw [htke]; exact hE
 clear h1 h2 ho1 ho2 ho1' ho2' h hF1 hF1' hF2 hF2'
 intro G0 a0 w0 hr0
 refine wpIn_region_any hm ?_
 generalize hF : Fr ((St.mk sz fr up own dfs rnd).rnd.map G0.blk) = F
 -- each slot has one writer
 have hu : ∀ (i j : Nat) (t : Nat) (y y' : AV), D[i]? = some (t, y) → D[j]? = some (t, y') → j = i := by
  intro i j t y y' h1 h2
  have hi : i < k := by rw [← hD]; exact (List.getElem?_eq_some_iff.1 h1).1
  have hj : j < k := by rw [← hD]; exact (List.getElem?_eq_some_iff.1 h2).1
  by_cases hie : i = ei
  ·by_cases hje : j = ei
   ·omega
   have e2 : l[j]? = some (l[j]'(by omega)) := List.getElem?_eq_getElem (by omega)
   obtain ⟨s', z', b1, b2, b3, _⟩ := hops j _ hj hje e2
   subst hie
   rw [hDe] at h1
   rw [h2] at b1
   simp only [Option.some.injEq, Prod.mk.injEq] at h1 b1
   rcases hse with ⟨q, _⟩ | ⟨_, q, _⟩
   ·exact ok.uniq i j _ _ hi hj hoe e2 (by rw [q, b2, h1.1, b1.1])
   omega
  have e1 : l[i]? = some (l[i]'(by omega)) := List.getElem?_eq_getElem (by omega)
  obtain ⟨s, z, a1, a2, a3, _⟩ := hops i _ hi hie e1
  rw [h1] at a1
  simp only [Option.some.injEq, Prod.mk.injEq] at a1
  by_cases hje : j = ei
  ·subst hje
   rw [hDe] at h2
   simp only [Option.some.injEq, Prod.mk.injEq] at h2
   rcases hse with ⟨q, _⟩ | ⟨_, q, _⟩
   ·exact ok.uniq i j _ _ hi hj e1 hoe (by rw [q, a2, h2.1, a1.1])
   omega
  have e2 : l[j]? = some (l[j]'(by omega)) := List.getElem?_eq_getElem (by omega)
  obtain ⟨s', z', b1, b2, _⟩ := hops j _ hj hje e2
  rw [h2] at b1
  simp only [Option.some.injEq, Prod.mk.injEq] at b1
  exact ok.uniq i j _ _ hi hj e1 e2 (by rw [a2, b2, ← a1.1, ← b1.1])
 have key : ∀ (fuel : Nat) (listed : Array Bool) (a : Act) (w : World) (G : Gh), listed.size = l.length → listed.toList.countP (fun b => !b) = fuel →
   (∀ j, k ≤ j → j < l.length → listed.getD j false = false) →
   (∀ (i : Nat) (o : Oper), listed.getD i false = true → l[i]? = some o → ∀ e ∈ o.after, Region.binds .any e = true → listed.getD e.on false = true) →
   StRel d G ⟨sz, frL (fun j => listed.getD j false) 0 D fr, (bif listed.getD ei false then up' else up), (bif listed.getD ei false then own' else own), dfs, rnd⟩ a w → Keep d G0 w0 G w →
   wpAnyIn F 0 P .any l.toArray (fun e => Post d ⟨sz, fr, up, own, dfs, rnd⟩ G0 w0 (K e)) fuel listed a w := by
  intro fuel
  induction fuel with
  | zero =>
   intro listed a w G hsz hcnt htl hcl hst hkp
   have hall : ∀ j, j < l.length → listed.getD j false = true := fun j hj => by
    have hz : listed.toList.all (fun b => b) = true := by
     rw [List.countP_eq_zero] at hcnt
     exact List.all_eq_true.2 fun b hb => by simpa using hcnt b hb
    have hj' : j < listed.size := by omega
    have := List.all_eq_true.1 hz (listed[j]) (by simp)
    simpa [hj'] using this
   have hkeq : k = l.length := by
    refine Classical.byContradiction fun hne => ?_
    have h1 := htl k (Nat.le_refl _) (by omega)
    rw [hall k (by omega)] at h1
    cases h1
   refine Fm ok.toEdgeOK 0 l.length listed a w (by omega) (by omega) hsz (fun j hj => by rw [hall j hj]; simpa using hj) ?_
   have hfe : frL (fun j => listed.getD j false) 0 D fr = frL (fun _ => true) 0 D fr := Gq D 0 fr (fun j hj => by rw [Nat.zero_add]; exact hall j (by omega))
   rw [hfe, hall ei (by omega)] at hst
   have hz := hrest G a w hst [] (by simp [hkeq])
   rw [Bm (st' := ⟨sz, frL (fun _ => true) 0 D fr, up', own', dfs, rnd⟩) hr0 hkp rfl, hF] at hz
   exact Ap (fun e a' w' ⟨he, hp⟩ => by subst he; exact hp.next hkp hlen rfl rfl) _ _ _ hz
  | succ fuel ih =>
   intro listed a w G hsz hcnt htl hcl hst hkp
   by_cases hpre : ∀ j, j < k → listed.getD j false = true
   ·-- the rest, in a row
    have hfe : frL (fun j => listed.getD j false) 0 D fr = frL (fun _ => true) 0 D fr := Gq D 0 fr (fun j hj => by rw [Nat.zero_add]; exact hpre j (by omega))
    rw [hfe, hpre ei hek] at hst
    have hle : ∀ j, j < l.length → listed.getD j false = decide (j < k) := fun j hj => by
     by_cases hjk : j < k
     ·rw [hpre j hjk]; simpa using hjk
     rw [htl j (by omega) hj]; simpa using hjk
    have hcnt' : fuel + 1 = l.length - k := by
     rw [← hcnt]
     have e1 : listed.toList = (List.range l.length).map (fun j => decide (j < k)) := by
      apply List.ext_getElem
      ·simp [hsz]
      intro j h1 h2
      have hj : j < l.length := by simpa [hsz] using h1
      have := hle j hj
      simp only [List.getElem_map, List.getElem_range, Array.getElem_toList]
      rw [← this]
      have hj' : j < listed.size := by omega
      simp [hj']
     rw [e1, List.countP_map]
     have e2 : ((fun b => !b) ∘ fun j => decide (j < k)) = fun j => decide (k ≤ j) := by
      funext j
      simp only [Function.comp_apply]
      by_cases hjk : j < k
      ·have h2 : ¬ k ≤ j := by omega
       simp [hjk, h2]
      have h2 : k ≤ j := by omega
      simp [hjk, h2]
     rw [e2]
     have : ∀ n, (List.range n).countP (fun j => decide (k ≤ j)) = n - k := by
      intro n
      induction n with
      | zero => simp
      | succ n ihn =>
       rw [List.range_succ, List.countP_append, ihn]
       by_cases hkn : k ≤ n
       ·simp [hkn]; omega
       simp [hkn]; omega
     rw [this]
    rw [hcnt']
    refine Fm ok.toEdgeOK (l.length - k) k listed a w (Nat.le_refl _) (by omega) hsz hle ?_
    have hz := hrest G a w hst (List.range' k (l.length - k)) (by
     apply List.ext_getElem?
     intro i
     simp only [List.getElem?_map, List.getElem?_drop]
     by_cases hi : i < l.length - k
     ·rw [List.getElem?_range' (by omega), List.getElem?_eq_getElem (l := l) (by omega)]
      simp
     rw [List.getElem?_eq_none (by simp; omega), List.getElem?_eq_none (by omega)]; rfl)
    rw [Bm (st' := ⟨sz, frL (fun _ => true) 0 D fr, up', own', dfs, rnd⟩) hr0 hkp rfl, hF] at hz
    exact Ap (fun e a' w' ⟨he, hp⟩ => by subst he; exact hp.next hkp hlen rfl rfl) _ _ _ hz
   obtain ⟨j0, hj0k, hj0⟩ : ∃ j, j < k ∧ listed.getD j false = false := by
    refine Classical.byContradiction fun hne => hpre fun j hj => ?_
    cases hv : listed.getD j false with
    | true => rfl
    | false => exact absurd ⟨j, hj, hv⟩ hne
   refine ⟨fun h0 => ?_, fun i hi => ?_⟩
   ·-- the least that is not listed is ready
    obtain ⟨m, hm, hmin⟩ := Cv (S := fun j => j < k ∧ listed.getD j false = false) ⟨j0, hj0k, hj0⟩
    have hml : m < l.length := by omega
    have : m ∈ Region.ready .any l.toArray listed := by
     refine mem_ready.2 ⟨?_, l[m], by simp [hml], fun e he hb => ?_⟩
     ·have := hm.2; have hj' : m < listed.size := by omega
      simpa [hj'] using this
     have hlt := ok.fwd m _ (List.getElem?_eq_getElem hml) e he hb
     cases hv : listed.getD e.on false with
     | true => rfl
     | false => have := hmin e.on ⟨by omega, hv⟩; omega
    rw [h0] at this
    cases this
   obtain ⟨h1, o, ho, he⟩ := mem_ready.1 hi
   have ho' : l[i]? = some o := by simpa using ho
   have hil := (List.getElem?_eq_some_iff.1 ho').1
   have hLi : listed.getD i false = false := by
    have h3 : listed.getD i true = listed.getD i false := by simp [hsz, hil]
    rw [← h3]; exact h1
   have hbits := Cn ok.toEdgeOK (L := fun j => listed.getD j false) hcl i o ho' he
   have hik : i < k := by
    refine Classical.byContradiction fun hge => ?_
    have := hbits j0 (ok.tail i j0 o ho' (by omega) (by omega))
    simp only [hj0] at this
    cases this
   obtain ⟨s, y, hDi, hdstX⟩ := hall' i o hik ho'
   -- what it looks at is as in the text's order
   have hag : ∀ t ∈ lk l o, frL (fun j => listed.getD j false) 0 D fr t = frL (fun _ => true) 0 (D.take i) fr t := by
    intro t ht
    by_cases hw : ∃ (j : Nat) (y : AV), D[j]? = some (t, y)
    ·obtain ⟨j, z, hj⟩ := hw
     have hjk : j < k := by rw [← hD]; exact (List.getElem?_eq_some_iff.1 hj).1
     have ez : l[j]? = some (l[j]'(by omega)) := List.getElem?_eq_getElem (by omega)
     obtain ⟨s', z', b1, b2'⟩ := hall' j _ hjk ez
     rw [hj] at b1
     injection b1 with b1
     injection b1 with b1 b1'
     subst b1
     have b2 : (l[j]'(by omega)).dst = some t := by
      rcases b2' with ⟨b2, _⟩ | ⟨_, b3⟩
      ·exact b2
      exact absurd ht (b3 o (List.mem_of_getElem? ho'))
     rcases ok.look i j o _ t hik hjk ho' ez ht b2 with rfl | ⟨hb, hlt⟩ | ⟨hb, hlt⟩
     ·rw [B9 D 0 fr (fun q y hq => by rw [hu j q t z y hj hq, Nat.zero_add]; exact hLi), B9 (D.take j) 0 fr (fun q y hq => by
       rw [List.getElem?_take] at hq
       split at hq
       ·rename_i hlt; have := hu j q t z y hj hq; omega
       cases hq)]
     ·rw [Cq D 0 j fr hj (by rw [Nat.zero_add]; exact hbits j hb) (fun q y hq => hu j q t z y hj hq), Cq (D.take i) 0 j fr (by rw [List.getElem?_take, if_pos hlt]; exact hj) rfl (fun q y hq => by
       rw [List.getElem?_take] at hq
       split at hq
       ·exact hu j q t z y hj hq
       cases hq)]
     have hLj : listed.getD j false = false := by
      cases hv : listed.getD j false with
      | false => rfl
      | true =>
       have := Cn ok.toEdgeOK (L := fun j => listed.getD j false) hcl j _ ez (hcl j _ hv ez) i hb
       simp only [hLi] at this
       cases this
     rw [B9 D 0 fr (fun q y hq => by rw [hu j q t z y hj hq, Nat.zero_add]; exact hLj), B9 (D.take i) 0 fr (fun q y hq => by
      rw [List.getElem?_take] at hq
      split at hq
      ·rename_i hlt'; have := hu j q t z y hj hq; omega
      cases hq)]
    rw [B9 D 0 fr (fun q y hq => absurd ⟨q, y, hq⟩ hw), B9 (D.take i) 0 fr (fun q y hq => by
      rw [List.getElem?_take] at hq
      split at hq
      ·exact absurd ⟨q, y, hq⟩ hw
      cases hq)]
   -- on from there
   have hgd : ∀ j, (listed.setIfInBounds i true).getD j false = if j = i then true else listed.getD j false := fun j => by
    by_cases hj : j = i
    ·subst hj; simp [hsz, hil]
    rw [getD_set_ne false (Ne.symm hj), if_neg hj]
   have hfr : frL (fun j => (listed.setIfInBounds i true).getD j false) 0 D fr = A5 s y (frL (fun j => listed.getD j false) 0 D fr) := by
    funext t
    unfold A5
    by_cases ht : t = s
    ·subst ht
     rw [if_pos rfl]
     exact Cq D 0 i fr hDi (by rw [Nat.zero_add, hgd, if_pos rfl]) (fun q z hq => hu i q t y z hDi hq)
    rw [if_neg ht]
    by_cases hw : ∃ (j : Nat) (y : AV), D[j]? = some (t, y)
    ·obtain ⟨j, z, hj⟩ := hw
     have hji : j ≠ i := fun e => by subst e; rw [hDi] at hj; injection hj with hj; injection hj with hj _; exact ht hj.symm
     cases hv : listed.getD j false with
     | true => rw [Cq D 0 j fr hj (by rw [Nat.zero_add, hgd, if_neg hji]; exact hv) (fun q y hq => hu j q t z y hj hq), Cq D 0 j fr hj (by rw [Nat.zero_add]; exact hv) (fun q y hq => hu j q t z y hj hq)]
     | false => rw [B9 D 0 fr (fun q y hq => by rw [hu j q t z y hj hq, Nat.zero_add, hgd, if_neg hji]; exact hv), B9 D 0 fr (fun q y hq => by rw [hu j q t z y hj hq, Nat.zero_add]; exact hv)]
    rw [B9 D 0 fr (fun q y hq => absurd ⟨q, y, hq⟩ hw), B9 D 0 fr (fun q y hq => absurd ⟨q, y, hq⟩ hw)]
   have hnext : ∀ (G1 : Gh) (a1 : Act) (w1 : World), StRel d G1 ⟨sz, frL (fun j => (listed.setIfInBounds i true).getD j false) 0 D fr, (bif (listed.setIfInBounds i true).getD ei false then up' else up), (bif (listed.setIfInBounds i true).getD ei false then own' else own), dfs, rnd⟩ a1 w1 → Keep d G w G1 w1 →
     wpAnyIn F 0 P .any l.toArray (fun e => Post d ⟨sz, fr, up, own, dfs, rnd⟩ G0 w0 (K e)) fuel (listed.setIfInBounds i true) a1 w1 := by
    intro G1 a1 w1 hr1 hk1
    refine ih _ _ w1 G1 (by simpa using hsz) ?_ (fun j hj hjl => by rw [hgd, if_neg (by omega)]; exact htl j hj hjl) (fun q oq hq hoq e hmem hb => ?_) ?_ (hkp.trans hk1)
    ·rw [Array.toList_setIfInBounds, List.countP_set (by simpa [hsz] using hil), hcnt]
     have hil' : i < listed.size := by omega
     have : listed[i] = false := by simpa [hil'] using hLi
     simp [this]
    ·rw [hgd] at hq ⊢
     split
     ·rfl
     by_cases hqi : q = i
     ·subst hqi
      rw [ho'] at hoq
      injection hoq with hoq
      subst hoq
      exact he e hmem hb
     rw [if_neg hqi] at hq
     exact hcl q oq hq hoq e hmem hb
    exact hr1
   have hFe : Fr (rnd.map G.blk) = F := by
    rw [← hF]; exact Bm (st' := ⟨sz, frL (fun j => listed.getD j false) 0 D fr, up, own, dfs, rnd⟩) hr0 hkp rfl
   unfold wpOpIn
   rw [ho]
   simp only
   by_cases hie : i = ei
   ·subst hie
    have : o = oe := by rw [hoe] at ho'; injection ho' with ho'; exact ho'.symm
    subst this
    have hsy : s = se ∧ y = ye := by rw [hDe] at hDi; injection hDi with hDi; injection hDi with h1 h2; exact ⟨h1.symm, h2.symm⟩
    obtain ⟨rfl, rfl⟩ := hsy
    have hw : Region.wanted o (yielded l.toArray a.tmps) = true := by simp [Region.wanted, hge]
    rw [if_pos hw]
    rw [hLi] at hst
    have := hE _ (fun t ht => hag t (List.elem_iff.1 ht)) G a w hst (fun e => Post d ⟨sz, fr, up, own, dfs, rnd⟩ G0 w0 (K e))
    rw [show Fr ((St.mk sz (frL (fun j => listed.getD j false) 0 D fr) up own dfs rnd).rnd.map G.blk) = F from hFe] at this
    refine Oper.wpIn_mono ?_ this
    rintro a1 w1 ⟨G1, st1, hr1, hk1, _, _, _, rfl⟩
    refine hnext G1 a1 w1 ?_ hk1
    rw [hfr, hgd, if_pos rfl]
    exact hr1
   obtain ⟨s', y', hDi', hdst, hssz, hOb⟩ := hops i o hik hie ho'
   have hsy : s' = s ∧ y' = y := by rw [hDi] at hDi'; injection hDi' with hDi'; injection hDi' with h1 h2; exact ⟨h1.symm, h2.symm⟩
   obtain ⟨rfl, rfl⟩ := hsy
   have hO := hOb (listed.getD ei false)
   have hput : ∀ (G1 : Gh) (v : Value) (w1 : World), StRel d G1 ⟨sz, frL (fun j => listed.getD j false) 0 D fr, (bif listed.getD ei false then up' else up), (bif listed.getD ei false then own' else own), dfs, rnd⟩ a w1 → Keep d G w G1 w1 → Rep G1 w1 none y' v →
     wpAnyIn F 0 P .any l.toArray (fun e => Post d ⟨sz, fr, up, own, dfs, rnd⟩ G0 w0 (K e)) fuel (listed.setIfInBounds i true) (a.put o.dst v) w1 := by
    intro G1 v w1 hr1 hk1 hv
    refine hnext G1 _ w1 ?_ hk1
    rw [hfr, hgd, if_neg (fun e => hie e.symm), hdst]
    exact hr1.put (st := ⟨sz, frL (fun j => listed.getD j false) 0 D fr, (bif listed.getD ei false then up' else up), (bif listed.getD ei false then own' else own), dfs, rnd⟩) hssz hv.lift
   unfold OpD at hO
   cases hg : o.guard with
   | none =>
    rw [hg] at hO
    have hw : Region.wanted o (yielded l.toArray a.tmps) = true := by simp [Region.wanted, hg]
    rw [if_pos hw]
    have := hO _ hag G a w hst (fun e => Post d ⟨sz, fr, up, own, dfs, rnd⟩ G0 w0 (K e))
    rw [show Fr ((St.mk sz (frL (fun j => listed.getD j false) 0 D fr) (bif listed.getD ei false then up' else up) (bif listed.getD ei false then own' else own) dfs rnd).rnd.map G.blk) = F from hFe] at this
    refine Oper.wpIn_mono ?_ this
    rintro a1 w1 ⟨G1, v, rfl, hr1, hk1, hv⟩
    exact hput G1 v w1 hr1 hk1 hv
   | some jw =>
    obtain ⟨j, want⟩ := jw
    rw [hg] at hO
    obtain ⟨oj, g, C, y'', hj, hdj, hgB, rfl, hO⟩ := hO
    have hgf : GIs (frL (fun j => listed.getD j false) 0 D fr g) want C := by
     rw [hag g (by unfold lk; rw [hg]; simp [hj, hdj])]
     exact hgB
    have hw : Region.wanted o (yielded l.toArray a.tmps) = C := Fl hst hg (by simpa using hj) hdj hgf
    rw [hw]
    cases hBw : C with
    | true =>
     rw [if_pos rfl]
     have := hO hBw _ hag G a w hst (fun e => Post d ⟨sz, fr, up, own, dfs, rnd⟩ G0 w0 (K e))
     rw [show Fr ((St.mk sz (frL (fun j => listed.getD j false) 0 D fr) (bif listed.getD ei false then up' else up) (bif listed.getD ei false then own' else own) dfs rnd).rnd.map G.blk) = F from hFe] at this
     refine Oper.wpIn_mono ?_ this
     rintro a1 w1 ⟨G1, v, rfl, hr1, hk1, hv⟩
     exact hput G1 v w1 hr1 hk1 (by rw [hBw]; exact hv)
    | false =>
     rw [if_neg (by simp)]
     refine ⟨fun _ _ => by rw [← hFe]; trivial, ?_⟩
     exact hput G undef w hst (Keep.refl _ _ _) (by rw [hBw]; exact .v _ _)
 have hz : frL (fun j => (Array.replicate l.toArray.size false).getD j false) 0 D fr = fr := by
  funext t
  refine B9 D 0 fr fun j y hj => ?_
  rw [Array.getD_eq_getD_getElem?, Array.getElem?_replicate]
  split <;> rfl
 refine key _ _ _ _ G0 (by simp) ?_ (fun j hj hjl => ?_) (fun i o hi => ?_) ?_ ?_
 ·simp [List.countP_replicate]
 ·rw [Array.getD_eq_getD_getElem?, Array.getElem?_replicate]; split <;> rfl
 ·rw [Array.getD_eq_getD_getElem?, Array.getElem?_replicate] at hi
  split at hi <;> simp at hi
 ·rw [hz]
  have he : (Array.replicate l.toArray.size false).getD ei false = false := by
   rw [Array.getD_eq_getD_getElem?, Array.getElem?_replicate]; split <;> rfl
  rw [he]
  exact hr0.drew _
 exact (Dz G0 w0 _).keep d
theorem W.drawX {y : Code} {K : Exit → St → Prop} (M : List Nat) (ei n2 se : Nat) (ye : AV) (up' own' : List AObj) (hm : P.follows .mixedOrders = true) (hok : Hn l (ei + 1 + n2) M = true)
  (h1 : ∀ b : Bool, ADraw P d l sz (bif b then up' else up) (bif b then own' else own) dfs rnd (fun l' f => l' = oe :: l2 ∧ f = F1) ei l fr)
  (h2 : ∀ b : Bool, ADraw P d l sz (bif b then up' else up) (bif b then own' else own) dfs rnd (fun l' f => l' = l3 ∧ f = F2) n2 l2 (A5 se ye F1))
  (hE : ∀ f, (∀ t, (lk l oe).elem t = true → f t = F1 t) → AOp P d oe ⟨sz, f, up, own, dfs, rnd⟩ (· = ⟨sz, A5 se ye f, up', own', dfs, rnd⟩))
  (h : ARun P d l.toArray l3 ⟨sz, F2, up', own', dfs, rnd⟩ (fun s => AW P d y s K)) (hx : okX sz l oe se = true) (hlen : up'.length = up.length) :
  AW P d (.seq (.region id l.toArray true) y) ⟨sz, fr, up, own, dfs, rnd⟩ K := AW.seq (AW.drawX M hm hok hx hlen rfl h1 h2 hE h)
theorem W.drawXU {id : Nat} {l l2 l3 : List Oper} {oe : Oper} {fr F1 F2 : Nat → AV} {y : Code} {K : Exit → St → Prop} (M : List Nat) (ei n2 se : Nat) (ye : AV) (up' : List AObj) (hm : P.follows .mixedOrders = true) (hok : Hn l (ei + 1 + n2) M = true)
  (h1 : ∀ b : Bool, ADraw P d l sz (bif b then up' else up) own dfs rnd (fun l' f => l' = oe :: l2 ∧ f = F1) ei l fr)
  (h2 : ∀ b : Bool, ADraw P d l sz (bif b then up' else up) own dfs rnd (fun l' f => l' = l3 ∧ f = F2) n2 l2 (A5 se ye F1))
  (hE : ∀ f, (∀ t, (lk l oe).elem t = true → f t = F1 t) → AOp P d oe ⟨sz, f, up, own, dfs, rnd⟩ (· = ⟨sz, A5 se ye f, up', own, dfs, rnd⟩))
  (h : ARun P d l.toArray l3 ⟨sz, F2, up', own, dfs, rnd⟩ (fun s => AW P d y s K)) (hx : okX sz l oe se = true) (hlen : up'.length = up.length) :
  AW P d (.seq (.region id l.toArray true) y) ⟨sz, fr, up, own, dfs, rnd⟩ K :=
 W.drawX M ei n2 se ye up' own hm hok (fun b => by have := h1 b; cases b <;> exact this) (fun b => by have := h2 b; cases b <;> exact this) hE h hx hlen
theorem AOp.to {o : Oper} {st s1 s2 : St} (h : AOp P d o st (· = s1)) (hl : StLe d s1 s2) : AOp P d o st (· = s2) := by
 intro G a w hr Q'
 refine El ?_ (h G a w hr Q')
 rintro a' w' ⟨G', st', b1, b2, b3, b4, b5, rfl⟩
 exact ⟨G', s2, hl.1 _ _ _ b1, b2, hl.2.1.trans b3, hl.2.2.1.trans b4, hl.2.2.2.trans b5, rfl⟩
theorem StLe.slotAny {s : Nat} : StLe d ⟨sz, f, up, own, dfs, rnd⟩ ⟨sz, A5 s .any f, up, own, dfs, rnd⟩ :=
 StLe.frame (s := ⟨sz, f, up, own, dfs, rnd⟩) (f := A5 s .any f) (fun i => by unfold A5; split; exact .any _; exact .refl _)
theorem X.storeUp {t t' : TypeId} {p x : Operand} {o off k se : Nat} {y : AV} {ys cs cs' : List AV} {f : Nat → AV} {ty : TypeId} {pos : String} {aft : Array Edge} (hsz : ∀ w, (Go.sizeOf t).run P w = .ok k w) (hp : A8 f p = .ptr o off) (hx : A8 f x = y) (ho : up[o]? = some (.cells t' cs)) (hc : y.cells = ys) (hk : ys.length = k)
  (h1 : ys.all AV.one = true) (hfit : off + k ≤ cs.length) (hput : Ax cs off ys = cs') (hlow : ∀ z ∈ ys, Low up.length z) :
  AOp P d ⟨none, .store t p x, ty, pos, aft, none⟩ ⟨sz, f, up, own, dfs, rnd⟩ (· = ⟨sz, A5 se .any f, up.set o (.cells t' cs'), own, dfs, rnd⟩) := by
 subst hput
 subst hc
 exact AOp.to (AOp.storeUp (st := ⟨sz, f, up, own, dfs, rnd⟩) hsz hp ho hx hk h1 hfit hlow) StLe.slotAny
end
end Go.SX
namespace Go.SX
variable [GI : GlobInv]
open Classical
variable {L L' : Nat → Bool} {args : List AV} {g : FuncId} {id pn t : Nat} {o : Oper} {own0 up0 : List AObj} {r : AV} {tn : List Nat} {x x0 : AObj} {xs : List Operand}
section
variable {P : Program} {d : Nat}
variable {sz : Nat} {dfs : List Nat} {rnd : Option Nat}

/-! ### What is written -/
def E5 (ws : List (Nat × AV)) (f : Nat → AV) : Nat → AV := ws.foldl (fun f x => A5 x.1 x.2 f) f
theorem Iw (x : Nat × AV) (r : List (Nat × AV)) (f : Nat → AV) : E5 (x :: r) f = E5 r (A5 x.1 x.2 f) := rfl
theorem Fs : ∀ (ws : List (Nat × AV)) (f : Nat → AV), t ∉ ws.map (·.1) → E5 ws f t = f t
 | [], _, _ => rfl
 | x :: r, f, h => by
  rw [Iw, Fs r _ (fun hm => h (by simp only [List.map_cons, List.mem_cons]; exact .inr hm))]
  unfold A5
  rw [if_neg (fun e => h (by simp [e]))]
theorem F4 {t : Nat} : ∀ (ws : List (Nat × AV)) (f g : Nat → AV), (t ∈ ws.map (·.1) ∨ f t = g t) → E5 ws f t = E5 ws g t
 | [], f, g, h => by
  rcases h with h | h
  ·cases h
  exact h
 | x :: r, f, g, h => by
  rw [Iw, Iw]
  refine F4 r _ _ ?_
  by_cases hx : t = x.1
  ·right; unfold A5; rw [if_pos hx, if_pos hx]
  rcases h with h | h
  ·left
   simp only [List.map_cons, List.mem_cons] at h
   exact h.resolve_left hx
  right; unfold A5; rw [if_neg hx, if_neg hx]; exact h

def frY (L : Nat → Bool) : Nat → List (List (Nat × AV)) → (Nat → AV) → (Nat → AV)
 | _, [], f => f
 | i, ws :: r, f => frY L (i + 1) r (if L i then E5 ws f else f)
theorem M5 {L L' : Nat → Bool} {t : Nat} : ∀ (D : List (List (Nat × AV))) (i : Nat) (f g : Nat → AV), (∀ (j : Nat) (ws : List (Nat × AV)), D[j]? = some ws → t ∈ ws.map (·.1) → L (i + j) = L' (i + j)) → f t = g t → frY L i D f t = frY L' i D g t
 | [], _, _, _, _, h => h
 | x :: r, i, f, g, h, hf => by
  unfold frY
  refine M5 r (i + 1) _ _ (fun j ws hj ht => by have := h (j + 1) ws (by simpa using hj) ht; rwa [show i + 1 + j = i + (j + 1) by omega]) ?_
  by_cases hm : t ∈ x.map (·.1)
  ·have h0 := h 0 x (by simp) hm
   rw [Nat.add_zero] at h0
   rw [h0]
   split
   ·exact F4 x f g (.inl hm)
   exact hf
  have e : ∀ (b : Bool) (f : Nat → AV), (if b = true then E5 x f else f) t = f t := fun b f => by
   cases b
   ·rfl
   exact Fs x f hm
  rw [e, e]
  exact hf
theorem Gr : ∀ (D : List (List (Nat × AV))) (i : Nat) (f : Nat → AV), (∀ (j : Nat) (ws : List (Nat × AV)), D[j]? = some ws → t ∈ ws.map (·.1) → L (i + j) = false) → frY L i D f t = f t
 | [], _, _, _ => rfl
 | x :: r, i, f, h => by
  unfold frY
  rw [Gr r (i + 1) _ (fun j ws hj ht => by have := h (j + 1) ws (by simpa using hj) ht; rwa [show i + 1 + j = i + (j + 1) by omega])]
  by_cases hL : L i
  ·rw [if_pos hL]
   refine Fs x f fun hm => ?_
   have := h 0 x (by simp) hm
   simp [hL] at this
  rw [if_neg hL]
theorem M6 {ws : List (Nat × AV)} : ∀ (D : List (List (Nat × AV))) (i j : Nat) (f : Nat → AV), D[j]? = some ws → t ∈ ws.map (·.1) → L (i + j) = true →
  (∀ (j' : Nat) (ws' : List (Nat × AV)), D[j']? = some ws' → t ∈ ws'.map (·.1) → j < j' → L (i + j') = false) → frY L i D f t = E5 ws f t
 | [], _, _, _, h, _, _, _ => by simp at h
 | x :: r, i, 0, f, h, hm, hL, hu => by
  unfold frY
  have hL' : L i = true := by simpa using hL
  rw [if_pos hL', Gr r (i + 1) _ (fun j' y' hj' ht => by have := hu (j' + 1) y' (by simpa using hj') ht (by omega); rwa [show i + 1 + j' = i + (j' + 1) by omega])]
  have hx : x = ws := by simpa using h
  rw [hx]
 | x :: r, i, j + 1, f, h, hm, hL, hu => by
  unfold frY
  rw [M6 r (i + 1) j _ (by simpa using h) hm (by rwa [show i + 1 + j = i + (j + 1) by omega]) (fun j' y' hj' ht hlt => by have := hu (j' + 1) y' (by simpa using hj') ht (by omega); rwa [show i + 1 + j' = i + (j' + 1) by omega])]
  exact F4 ws _ _ (.inl hm)
theorem M7 : ∀ (D : List (List (Nat × AV))) (i k : Nat) (f : Nat → AV), frY (fun _ => true) k (D.take i) f = frY (fun j => decide (j < k + i)) k D f
 | [], i, k, f => by simp [frY]
 | x :: r, 0, k, f => by
  rw [List.take_zero]
  funext t
  refine (Gr (x :: r) k f fun j ws _ _ => ?_).symm
  simp
 | x :: r, i + 1, k, f => by
  rw [List.take_succ_cons]
  unfold frY
  rw [M7 r i (k + 1)]
  have e1 : decide (k < k + (i + 1)) = true := by simp
  rw [e1, show k + 1 + i = k + (i + 1) by omega]
theorem Gs : ∀ (D : List (List (Nat × AV))) (i : Nat) (f : Nat → AV), (∀ j, j < D.length → L (i + j) = L' (i + j)) → frY L i D f = frY L' i D f
 | [], _, _, _ => rfl
 | x :: r, i, f, h => by
  unfold frY
  have h0 := h 0 (by simp)
  rw [Nat.add_zero] at h0
  rw [h0]
  exact Gs r (i + 1) _ (fun j hj => by have := h (j + 1) (by simp; omega); rwa [show i + 1 + j = i + (j + 1) by omega])
theorem If : ∀ (D : List (List (Nat × AV))) (i j : Nat) (f : Nat → AV), frY (fun _ => true) i D f = frY (fun _ => true) j D f
 | [], _, _, _ => rfl
 | x :: r, i, j, f => by unfold frY; exact If r _ _ _
theorem Hs (L : Nat → Bool) (i : Nat) (x : List (Nat × AV)) (r : List (List (Nat × AV))) (f : Nat → AV) : frY L i (x :: r) f = frY L (i + 1) r (if L i then E5 x f else f) := rfl
theorem Q0 : ∀ (A B : List (List (Nat × AV))) (i : Nat) (f : Nat → AV), frY (fun _ => true) i (A ++ B) f = frY (fun _ => true) 0 B (frY (fun _ => true) i A f)
 | [], B, i, f => If B i 0 f
 | x :: r, B, i, f => by
  rw [List.cons_append, Hs, Hs]
  exact Q0 r B (i + 1) _
theorem Lr (L : Nat → Bool) : ∀ (D : List (Nat × AV)) (i : Nat) (f : Nat → AV), frY L i (D.map fun x => [x]) f = frL L i D f
 | [], _, _ => rfl
 | x :: r, i, f => by
  rw [List.map_cons, Hs, Hr, Lr L r]
  rfl

/-! ### What has turned the heap -/
def upd (B : Nat → Bool) (p : Nat) : Nat → Bool := fun q => if q = p then true else B q
def Q3 (t : Option Nat) (B : Nat → Bool) : Nat → Bool := match t with | some p => upd B p | none => B
/-- tn: the operations that turn the heap; of each, by its number among them, whether it has run. -/
def bits (tn : List Nat) (L : Nat → Bool) : Nat → Bool := fun p => match tn[p]? with | some e => L e | none => false
/-- What is told of one of the operations drawn: the slots that it writes (none: the one that its text names), its number among those that turn the heap, and which of these come before and behind it. -/
structure Inf where
 W : Option (List Nat)
 t : Option Nat
 T : List Nat
 F : List Nat
theorem Rc {tn : List Nat} {L L' : Nat → Bool} {i : Nat} {t : Option Nat} (hL : ∀ q, L' q = if q = i then true else L q) (h1 : ∀ p, t = some p → tn[p]? = some i) (h0 : t = none → i ∉ tn) (hn : ∀ (p q e : Nat), tn[p]? = some e → tn[q]? = some e → p = q) : bits tn L' = Q3 t (bits tn L) := by
 funext q
 cases t with
 | none =>
  show bits tn L' q = bits tn L q
  unfold bits
  cases hq : tn[q]? with
  | none => rfl
  | some e =>
   show L' e = L e
   rw [hL, if_neg (fun he => h0 rfl (by rw [← he]; exact List.mem_of_getElem? hq))]
 | some p =>
  show bits tn L' q = upd (bits tn L) p q
  unfold upd
  by_cases hqp : q = p
  ·subst hqp
   rw [if_pos rfl]
   unfold bits
   rw [h1 q rfl]
   show L' i = true
   rw [hL, if_pos rfl]
  rw [if_neg hqp]
  unfold bits
  cases hq : tn[q]? with
  | none => rfl
  | some e =>
   show L' e = L e
   rw [hL, if_neg (fun he => by subst he; exact hqp (hn _ _ _ hq (h1 p rfl)))]
def slY (o : Oper) (x : Inf) : List Nat := match x.W with | some W => W | none => o.dst.toList

/-- What is asked of the region's text. -/
def okY (l : List Oper) (tn : List Nat) (I : List Inf) (M : List Nat) : Bool :=
 Nat.ble I.length l.length && (tn.zipIdx.all fun x => Nat.blt x.1 I.length && tn.zipIdx.all fun y => Nat.beq x.2 y.2 || !Nat.beq x.1 y.1) &&
 l.zipIdx.all fun x =>
  Nat.beq (M.getD x.2 0) (M0 M x.1.after.toList) && (x.1.after.toList.all fun e => !Region.binds .any e || Nat.blt e.on x.2) &&
  match I[x.2]? with
  | some inf =>
   ((slY x.1 inf).all fun s => (l.zip I).zipIdx.all fun z => Nat.beq z.2 x.2 || !((slY z.1.1 z.1.2).elem s) || (!(inf.W.isNone && z.1.2.W.isNone) && (((M.getD x.2 0).testBit z.2 && Nat.blt z.2 x.2) || ((M.getD z.2 0).testBit x.2 && Nat.blt x.2 z.2)))) &&
   ((lk l x.1).all fun s => (l.zip I).zipIdx.all fun z => !((slY z.1.1 z.1.2).elem s) || Nat.beq z.2 x.2 || ((M.getD x.2 0).testBit z.2 && Nat.blt z.2 x.2) || ((M.getD z.2 0).testBit x.2 && Nat.blt x.2 z.2)) &&
   (inf.T.all fun p => match tn[p]? with | some e => (M.getD x.2 0).testBit e | none => false) && (inf.F.all fun p => match tn[p]? with | some e => (M.getD e 0).testBit x.2 | none => false) &&
   (match inf.t with | some p => (match tn[p]? with | some e => Nat.beq e x.2 | none => false) | none => !tn.elem x.2)
  | none => (List.range x.2).all fun j => (M.getD x.2 0).testBit j

structure OkY (l : List Oper) (tn : List Nat) (I : List Inf) (M : List Nat) : Prop extends EdgeOK l I.length M where
 len : I.length ≤ l.length
 uniq : ∀ (i j : Nat) (o z : Oper) (x y : Inf) (s : Nat), l[i]? = some o → l[j]? = some z → I[i]? = some x → I[j]? = some y → s ∈ slY o x → s ∈ slY z y → j = i ∨ (¬ (x.W = none ∧ y.W = none) ∧ (((M.getD i 0).testBit j = true ∧ j < i) ∨ ((M.getD j 0).testBit i = true ∧ i < j)))
 look : ∀ (i j : Nat) (o z : Oper) (x y : Inf) (s : Nat), l[i]? = some o → l[j]? = some z → I[i]? = some x → I[j]? = some y → s ∈ lk l o → s ∈ slY z y → j = i ∨ ((M.getD i 0).testBit j = true ∧ j < i) ∨ ((M.getD j 0).testBit i = true ∧ i < j)
 T : ∀ (i : Nat) (x : Inf) (p : Nat), I[i]? = some x → p ∈ x.T → ∃ e, tn[p]? = some e ∧ (M.getD i 0).testBit e = true
 F : ∀ (i : Nat) (x : Inf) (p : Nat), I[i]? = some x → p ∈ x.F → ∃ e, tn[p]? = some e ∧ (M.getD e 0).testBit i = true
 t1 : ∀ (i : Nat) (x : Inf) (p : Nat), I[i]? = some x → x.t = some p → tn[p]? = some i
 t0 : ∀ (i : Nat) (x : Inf), I[i]? = some x → x.t = none → i ∉ tn
 tl : ∀ (p e : Nat), tn[p]? = some e → e < I.length
 tu : ∀ (p q e : Nat), tn[p]? = some e → tn[q]? = some e → p = q

theorem Je {l : List Oper} {tn : List Nat} {I : List Inf} {M : List Nat} (h : okY l tn I M = true) : OkY l tn I M := by
 have hx : ∀ (i : Nat) (o : Oper), l[i]? = some o → (o, i) ∈ l.zipIdx := fun i o ho => by
  rw [List.mem_zipIdx_iff_getElem?]; exact ho
 have hz : ∀ (j : Nat) (z : Oper) (y : Inf), l[j]? = some z → I[j]? = some y → ((z, y), j) ∈ (l.zip I).zipIdx := fun j z y h1 h2 => by
  rw [List.mem_zipIdx_iff_getElem?, List.getElem?_zip_eq_some]; exact ⟨h1, h2⟩
 unfold okY at h
 rw [Bool.and_eq_true, Bool.and_eq_true] at h
 have hlen : I.length ≤ l.length := Nat.le_of_ble_eq_true h.1.1
 have htn := List.all_eq_true.1 h.1.2
 have h := List.all_eq_true.1 h.2
 have htl : ∀ (p e : Nat), tn[p]? = some e → (e, p) ∈ tn.zipIdx := fun p e he => by rw [List.mem_zipIdx_iff_getElem?]; exact he
 have hl : ∀ (i : Nat) (x : Inf), I[i]? = some x → ∃ o, l[i]? = some o := fun i x hi => by
  have := (List.getElem?_eq_some_iff.1 hi).1
  exact ⟨l[i]'(by omega), List.getElem?_eq_getElem _⟩
 refine ⟨⟨fun i o ho m hm => ?_, fun i o ho e he hb => ?_, fun i j o ho hi hj => ?_⟩, hlen, fun i j o z x y s ho hz' hix hjy hs hs' => ?_, fun i j o z x y s ho hz' hix hjy hs hs' => ?_, fun i x p hi hp => ?_, fun i x p hi hp => ?_, fun i x p hi hp => ?_, fun i x hi hp => ?_, fun p e he => ?_, fun p q e hp hq => ?_⟩
 ·have hio := h _ (hx i o ho); simp only [Bool.and_eq_true] at hio
  have e := Nat.eq_of_beq_eq_true hio.1.1
  rw [e] at hm
  obtain ⟨e', he', h1⟩ := Iv _ hm
  exact ⟨e', by simpa using he', h1⟩
 ·have hio := h _ (hx i o ho); simp only [Bool.and_eq_true] at hio
  have := List.all_eq_true.1 hio.1.2 e (by simpa using he)
  simpa [hb] using this
 ·have hio := h _ (hx i o ho); simp only [Bool.and_eq_true] at hio
  have h2 := hio.2
  rw [List.getElem?_eq_none hi] at h2
  exact List.all_eq_true.1 h2 j (by simpa using hj)
 ·have hio := h _ (hx i o ho); simp only [Bool.and_eq_true] at hio
  have h2 := hio.2
  simp only [hix, Bool.and_eq_true] at h2
  have := List.all_eq_true.1 (List.all_eq_true.1 h2.1.1.1.1 s hs) _ (hz j z y hz' hjy)
  simp only [Bool.or_eq_true, Bool.not_eq_true'] at this
  rcases this with (h | h) | h
  ·exact .inl (Nat.eq_of_beq_eq_true h)
  ·rw [List.elem_iff.2 hs'] at h; cases h
  rw [Bool.and_eq_true, Bool.or_eq_true, Bool.and_eq_true, Bool.and_eq_true] at h
  refine .inr ⟨?_, ?_⟩
  ·rintro ⟨e1, e2⟩
   rw [e1, e2] at h
   exact absurd h.1 (by simp)
  rcases h.2 with h | h
  ·exact .inl ⟨h.1, by simpa using h.2⟩
  exact .inr ⟨h.1, by simpa using h.2⟩
 ·have hio := h _ (hx i o ho); simp only [Bool.and_eq_true] at hio
  have h2 := hio.2
  simp only [hix, Bool.and_eq_true] at h2
  have := List.all_eq_true.1 (List.all_eq_true.1 h2.1.1.1.2 s hs) _ (hz j z y hz' hjy)
  simp only [List.elem_iff.2 hs', Bool.not_true, Bool.false_or, Bool.or_eq_true, Bool.and_eq_true] at this
  rcases this with (h | h) | h
  ·exact .inl (Nat.eq_of_beq_eq_true h)
  ·exact .inr (.inl ⟨h.1, by simpa using h.2⟩)
  exact .inr (.inr ⟨h.1, by simpa using h.2⟩)
 ·obtain ⟨o, ho⟩ := hl i x hi
  have hio := h _ (hx i o ho); simp only [Bool.and_eq_true] at hio
  have h2 := hio.2
  simp only [hi, Bool.and_eq_true] at h2
  have := List.all_eq_true.1 h2.1.1.2 p hp
  cases he : tn[p]? with
  | none => rw [he] at this; cases this
  | some e => rw [he] at this; exact ⟨e, rfl, this⟩
 ·obtain ⟨o, ho⟩ := hl i x hi
  have hio := h _ (hx i o ho); simp only [Bool.and_eq_true] at hio
  have h2 := hio.2
  simp only [hi, Bool.and_eq_true] at h2
  have := List.all_eq_true.1 h2.1.2 p hp
  cases he : tn[p]? with
  | none => rw [he] at this; cases this
  | some e => rw [he] at this; exact ⟨e, rfl, this⟩
 ·obtain ⟨o, ho⟩ := hl i x hi
  have hio := h _ (hx i o ho); simp only [Bool.and_eq_true] at hio
  have h2 := hio.2
  simp only [hi, Bool.and_eq_true, hp] at h2
  have := h2.2
  cases he : tn[p]? with
  | none => rw [he] at this; cases this
  | some e => rw [he] at this; rw [Nat.eq_of_beq_eq_true this]
 ·obtain ⟨o, ho⟩ := hl i x hi
  have hio := h _ (hx i o ho); simp only [Bool.and_eq_true] at hio
  have h2 := hio.2
  simp only [hi, Bool.and_eq_true, hp, Bool.not_eq_true'] at h2
  intro hm
  have := h2.2
  rw [List.elem_iff.2 hm] at this
  cases this
 ·have := htn _ (htl p e he)
  rw [Bool.and_eq_true] at this
  simpa using this.1
 have := htn _ (htl p e hp)
 rw [Bool.and_eq_true] at this
 have := List.all_eq_true.1 this.2 _ (htl q e hq)
 simpa using this

/-- An operation that may panic. -/
def AOpK (P : Program) (d : Nat) (KP : List PanicEntry → St → Prop) (o : Oper) (st : St) (Q : St → Prop) : Prop :=
 ∀ (G : Gh) (a : Act) (w : World), StRel d G st a w → o.wpIn (Fr (st.rnd.map G.blk)) 0 P a w (Post d st G w Q) (fun e a' w' => ∃ ch, e = .panic ch ∧ Post d st G w (fun s => s.fr = st.fr ∧ KP ch s) a' w')
theorem AOpK.of {KP : List PanicEntry → St → Prop} {st : St} {Q : St → Prop} (h : AOp P d o st Q) : AOpK P d KP o st Q := fun G a w hr => h G a w hr _
theorem Ix {F : Fence} {n : Nat} {o : Oper} {a : Act} {w : World} {K K' : Act → World → Prop} {Q Q' : Exit → Act → World → Prop} (h : ∀ a w, K a w → K' a w) (hq : ∀ e a w, Q e a w → Q' e a w)
  (hh : o.wpIn F n P a w K Q) : o.wpIn F n P a w K' Q' := by
 unfold Oper.wpIn at *
 refine ⟨hh.1, ?_⟩
 have hh := hh.2
 generalize (o.semAt F.round a.eval).run P w = r at *
 cases r with
 | ok x w' =>
  cases x <;> simp only [Oper.uponIn] at hh ⊢ <;>
   first
    | exact h _ _ hh
    | exact ⟨hh.1, CallsIn.mono hh.2 (fun e w'' he => by
      cases e <;> first | exact h _ _ he | exact hq _ _ _ he | (obtain ⟨a, w, he⟩ := he; exact ⟨a, w, hq _ _ _ he⟩))⟩
    | exact ⟨hh.1, RowsIn.mono hh.2 (fun _ _ he => h _ _ he)⟩
    | exact ⟨hh.1, RoundIn.mono hh.2 (fun e w'' he => by
      cases e <;> first | exact h _ _ he | exact hq _ _ _ he | (obtain ⟨a, w, he⟩ := he; exact ⟨a, w, hq _ _ _ he⟩))⟩
 | halt x w' => cases x <;> simp only [Oper.uponIn] at hh ⊢ <;> first | exact hh | exact hq _ _ _ hh
/-- What is to be shown of one of the operations drawn; f0: the frame in the text's order. -/
def OpY (P : Program) (d : Nat) (l : List Oper) (sz : Nat) (up own : (Nat → Bool) → List AObj) (dfs : List Nat) (rnd : Option Nat) (KP : List PanicEntry → St → Prop) (x : Inf) (o : Oper) (f0 : Nat → AV) (ws : List (Nat × AV)) : Prop :=
 match x.W with
 | none => x.t = none ∧ ∃ s y, ws = [(s, y)] ∧ o.dst = some s ∧ s < sz ∧ ∀ B, (∀ p ∈ x.T, B p = true) → (∀ p ∈ x.F, B p = false) → OpD P d l o sz f0 (up B) (own B) dfs rnd y
 | some W => ws.map (·.1) = W ∧ o.guard = none ∧ ∀ B f, (∀ p ∈ x.T, B p = true) → (∀ p ∈ x.F, B p = false) → (∀ p, x.t = some p → B p = false) → (∀ t ∈ lk l o, f t = f0 t) →
   AOpK P d KP o ⟨sz, f, up B, own B, dfs, rnd⟩ (· = ⟨sz, E5 ws f, up (Q3 x.t B), own (Q3 x.t B), dfs, rnd⟩)
theorem OpY.slots {KP : List PanicEntry → St → Prop} {l : List Oper} {up own : (Nat → Bool) → List AObj} {x : Inf} {o : Oper} {f0 : Nat → AV} {ws : List (Nat × AV)} (h : OpY P d l sz up own dfs rnd KP x o f0 ws) : ws.map (·.1) = slY o x := by
 unfold OpY at h
 unfold slY
 cases hW : x.W with
 | none =>
  rw [hW] at h
  obtain ⟨_, s, y, rfl, h2, _⟩ := h
  simp [h2]
 | some W =>
  rw [hW] at h
  exact h.1

/-- **A region whose order is drawn, with several operations that turn the heap or write more slots than one**; whatever is asked of its end. -/
theorem Tq {id : Nat} {l : List Oper} {tn : List Nat} {I : List Inf} {D : List (List (Nat × AV))} {up own : (Nat → Bool) → List AObj} {fr : Nat → AV} {KP : List PanicEntry → St → Prop} {Q : Exit → Act → World → Prop} {G0 : Gh} {a0 : Act} {w0 : World} (M : List Nat) (hm : P.follows .mixedOrders = true) (hok : okY l tn I M = true)
  (hD : D.length = I.length) (hlen : ∀ B, (up B).length = (up fun _ => false).length)
  (hops : ∀ (i : Nat) (o : Oper) (x : Inf), l[i]? = some o → I[i]? = some x → ∃ ws, D[i]? = some ws ∧ OpY P d l sz up own dfs rnd KP x o (frY (fun _ => true) 0 (D.take i) fr) ws)
  (hr0 : StRel d G0 ⟨sz, fr, up fun _ => false, own fun _ => false, dfs, rnd⟩ a0 w0)
  (hrest : ∀ (G : Gh) (a : Act) (w : World), StRel d G ⟨sz, frY (fun _ => true) 0 D fr, up (fun p => decide (p < tn.length)), own (fun p => decide (p < tn.length)), dfs, rnd⟩ a w → Keep d G0 w0 G w → ∀ idx : List Nat, idx.map (fun i => l.toArray[i]?) = (l.drop I.length).map some → wpOpsIn (Fr (rnd.map G0.blk)) 0 P l.toArray Q idx a w)
  (hpan : ∀ (ch : List PanicEntry) (a : Act) (w : World) (Lb : Nat → Bool), Post d ⟨sz, fr, up fun _ => false, own fun _ => false, dfs, rnd⟩ G0 w0 (fun s => s.fr = frY Lb 0 D fr ∧ KP ch s) a w → Q (.panic ch) a w) :
  (Code.region id l.toArray true).wpIn (Fr (rnd.map G0.blk)) 0 P Q a0 w0 := by
 have ok := Je hok
 obtain ⟨k, hk⟩ : ∃ k, k = I.length := ⟨_, rfl⟩
 have hkl : k ≤ l.length := by have := ok.len; omega
 have ed : EdgeOK l k M := by rw [hk]; exact ok.toEdgeOK
 rw [← hk] at hD hrest
 have gI : ∀ i, i < k → ∃ x, I[i]? = some x := fun i hi => ⟨I[i]'(by omega), List.getElem?_eq_getElem _⟩
 refine wpIn_region_any hm ?_
 generalize hF : Fr (rnd.map G0.blk) = F at hrest ⊢
 have hu : ∀ (i j : Nat) (t : Nat) (ws ws' : List (Nat × AV)), D[i]? = some ws → t ∈ ws.map (·.1) → D[j]? = some ws' → t ∈ ws'.map (·.1) → j = i ∨ ((M.getD i 0).testBit j = true ∧ j < i) ∨ ((M.getD j 0).testBit i = true ∧ i < j) := by
  intro i j t ws ws' h1 m1 h2 m2
  have hi : i < k := by rw [← hD]; exact (List.getElem?_eq_some_iff.1 h1).1
  have hj : j < k := by rw [← hD]; exact (List.getElem?_eq_some_iff.1 h2).1
  have e1 : l[i]? = some (l[i]'(by omega)) := List.getElem?_eq_getElem (by omega)
  have e2 : l[j]? = some (l[j]'(by omega)) := List.getElem?_eq_getElem (by omega)
  obtain ⟨x, hx⟩ := gI i hi
  obtain ⟨y, hy⟩ := gI j hj
  obtain ⟨w1, a1, a2⟩ := hops i _ x e1 hx
  obtain ⟨w2, b1, b2⟩ := hops j _ y e2 hy
  rw [h1] at a1; injection a1 with a1; subst a1
  rw [h2] at b1; injection b1 with b1; subst b1
  rw [a2.slots] at m1
  rw [b2.slots] at m2
  exact (ok.uniq i j _ _ x y t e1 e2 hx hy m1 m2).imp (fun h => h) (fun h => h.2)
 have hbe : ∀ L : Nat → Bool, (∀ j, j < k → L j = true) → bits tn L = (fun p => decide (p < tn.length)) := fun L hL => by
  funext p
  unfold bits
  cases hp : tn[p]? with
  | none =>
   have : ¬ p < tn.length := by rw [List.getElem?_eq_none_iff] at hp; omega
   show false = decide (p < tn.length)
   simp [this]
  | some e =>
   have h1 := (List.getElem?_eq_some_iff.1 hp).1
   show L e = decide (p < tn.length)
   rw [hL e (by rw [hk]; exact ok.tl p e hp)]
   simp [h1]
 have key : ∀ (fuel : Nat) (listed : Array Bool) (a : Act) (w : World) (G : Gh), listed.size = l.length → listed.toList.countP (fun b => !b) = fuel →
   (∀ j, k ≤ j → j < l.length → listed.getD j false = false) →
   (∀ (i : Nat) (o : Oper), listed.getD i false = true → l[i]? = some o → ∀ e ∈ o.after, Region.binds .any e = true → listed.getD e.on false = true) →
   StRel d G ⟨sz, frY (fun j => listed.getD j false) 0 D fr, up (bits tn fun j => listed.getD j false), own (bits tn fun j => listed.getD j false), dfs, rnd⟩ a w → Keep d G0 w0 G w →
   wpAnyIn F 0 P .any l.toArray Q fuel listed a w := by
  intro fuel
  induction fuel with
  | zero =>
   intro listed a w G hsz hcnt htl hcl hst hkp
   have hall : ∀ j, j < l.length → listed.getD j false = true := fun j hj => by
    have hz : listed.toList.all (fun b => b) = true := by
     rw [List.countP_eq_zero] at hcnt
     exact List.all_eq_true.2 fun b hb => by simpa using hcnt b hb
    have hj' : j < listed.size := by omega
    have := List.all_eq_true.1 hz (listed[j]) (by simp)
    simpa [hj'] using this
   have hkeq : k = l.length := by
    refine Classical.byContradiction fun hne => ?_
    have h1 := htl k (Nat.le_refl _) (by omega)
    rw [hall k (by omega)] at h1
    cases h1
   refine Fm ed 0 l.length listed a w (by omega) (by omega) hsz (fun j hj => by rw [hall j hj]; simpa using hj) ?_
   have hfe : frY (fun j => listed.getD j false) 0 D fr = frY (fun _ => true) 0 D fr := Gs D 0 fr (fun j hj => by rw [Nat.zero_add]; exact hall j (by omega))
   have hce : (bits tn fun j => listed.getD j false) = (fun p => decide (p < tn.length)) := hbe _ (fun j hj => hall j (by omega))
   rw [hfe, hce] at hst
   exact hrest G a w hst hkp [] (by simp [hkeq])
  | succ fuel ih =>
   intro listed a w G hsz hcnt htl hcl hst hkp
   by_cases hpre : ∀ j, j < k → listed.getD j false = true
   ·-- the rest, in a row
    have hfe : frY (fun j => listed.getD j false) 0 D fr = frY (fun _ => true) 0 D fr := Gs D 0 fr (fun j hj => by rw [Nat.zero_add]; exact hpre j (by omega))
    have hce : (bits tn fun j => listed.getD j false) = (fun p => decide (p < tn.length)) := hbe _ hpre
    rw [hfe, hce] at hst
    have hle : ∀ j, j < l.length → listed.getD j false = decide (j < k) := fun j hj => by
     by_cases hjk : j < k
     ·rw [hpre j hjk]; simpa using hjk
     rw [htl j (by omega) hj]; simpa using hjk
    have hcnt' : fuel + 1 = l.length - k := by
     rw [← hcnt]
     have e1 : listed.toList = (List.range l.length).map (fun j => decide (j < k)) := by
      apply List.ext_getElem
      ·simp [hsz]
      intro j h1 h2
      have hj : j < l.length := by simpa [hsz] using h1
      have := hle j hj
      simp only [List.getElem_map, List.getElem_range, Array.getElem_toList]
      rw [← this]
      have hj' : j < listed.size := by omega
      simp [hj']
     rw [e1, List.countP_map]
     have e2 : ((fun b => !b) ∘ fun j => decide (j < k)) = fun j => decide (k ≤ j) := by
      funext j
      simp only [Function.comp_apply]
      by_cases hjk : j < k
      ·have h2 : ¬ k ≤ j := by omega
       simp [hjk, h2]
      have h2 : k ≤ j := by omega
      simp [hjk, h2]
     rw [e2]
     have : ∀ n, (List.range n).countP (fun j => decide (k ≤ j)) = n - k := by
      intro n
      induction n with
      | zero => simp
      | succ n ihn =>
       rw [List.range_succ, List.countP_append, ihn]
       by_cases hkn : k ≤ n
       ·simp [hkn]; omega
       simp [hkn]; omega
     rw [this]
    rw [hcnt']
    refine Fm ed (l.length - k) k listed a w (Nat.le_refl _) (by omega) hsz hle ?_
    exact hrest G a w hst hkp (List.range' k (l.length - k)) (by
     apply List.ext_getElem?
     intro i
     simp only [List.getElem?_map, List.getElem?_drop]
     by_cases hi : i < l.length - k
     ·rw [List.getElem?_range' (by omega), List.getElem?_eq_getElem (l := l) (by omega)]
      simp
     rw [List.getElem?_eq_none (by simp; omega), List.getElem?_eq_none (by omega)]; rfl)
   obtain ⟨j0, hj0k, hj0⟩ : ∃ j, j < k ∧ listed.getD j false = false := by
    refine Classical.byContradiction fun hne => hpre fun j hj => ?_
    cases hv : listed.getD j false with
    | true => rfl
    | false => exact absurd ⟨j, hj, hv⟩ hne
   refine ⟨fun h0 => ?_, fun i hi => ?_⟩
   ·-- the least that is not listed is ready
    obtain ⟨m, hm, hmin⟩ := Cv (S := fun j => j < k ∧ listed.getD j false = false) ⟨j0, hj0k, hj0⟩
    have hml : m < l.length := by omega
    have : m ∈ Region.ready .any l.toArray listed := by
     refine mem_ready.2 ⟨?_, l[m], by simp [hml], fun e he hb => ?_⟩
     ·have := hm.2; have hj' : m < listed.size := by omega
      simpa [hj'] using this
     have hlt := ed.fwd m _ (List.getElem?_eq_getElem hml) e he hb
     cases hv : listed.getD e.on false with
     | true => rfl
     | false => have := hmin e.on ⟨by omega, hv⟩; omega
    rw [h0] at this
    cases this
   obtain ⟨h1, o, ho, he⟩ := mem_ready.1 hi
   have ho' : l[i]? = some o := by simpa using ho
   have hil := (List.getElem?_eq_some_iff.1 ho').1
   have hLi : listed.getD i false = false := by
    have h3 : listed.getD i true = listed.getD i false := by simp [hsz, hil]
    rw [← h3]; exact h1
   have hbits := Cn ed (L := fun j => listed.getD j false) hcl i o ho' he
   have hik : i < k := by
    refine Classical.byContradiction fun hge => ?_
    have := hbits j0 (ed.tail i j0 o ho' (by omega) (by omega))
    simp only [hj0] at this
    cases this
   obtain ⟨x, hx⟩ := gI i hik
   obtain ⟨ws, hDi, hO⟩ := hops i o x ho' hx
   -- what it looks at is as in the text's order
   have hnl : ∀ j, (M.getD j 0).testBit i = true → j < k → listed.getD j false = false := fun j hb hjk => by
    cases hv : listed.getD j false with
    | false => rfl
    | true =>
     have ez : l[j]? = some (l[j]'(by omega)) := List.getElem?_eq_getElem (by omega)
     have := Cn ed (L := fun j => listed.getD j false) hcl j _ ez (hcl j _ hv ez) i hb
     simp only [hLi] at this
     cases this
   have hag : ∀ t ∈ lk l o, frY (fun j => listed.getD j false) 0 D fr t = frY (fun _ => true) 0 (D.take i) fr t := by
    intro t ht
    rw [M7]
    refine M5 D 0 fr fr (fun j v hj htv => ?_) rfl
    have hjk : j < k := by rw [← hD]; exact (List.getElem?_eq_some_iff.1 hj).1
    have ez : l[j]? = some (l[j]'(by omega)) := List.getElem?_eq_getElem (by omega)
    obtain ⟨y, hy⟩ := gI j hjk
    obtain ⟨v', b1, b2⟩ := hops j _ y ez hy
    rw [hj] at b1
    injection b1 with b1
    subst b1
    rw [b2.slots] at htv
    rw [Nat.zero_add, Nat.zero_add]
    rcases ok.look i j o _ x y t ho' ez hx hy ht htv with rfl | ⟨hb, hlt⟩ | ⟨hb, hlt⟩
    ·rw [hLi]; simp
    ·rw [hbits j hb]; simpa using hlt
    rw [hnl j hb hjk]
    have : ¬ j < i := by omega
    simp [this]
   -- on which heap
   have hTT : ∀ p ∈ x.T, bits tn (fun j => listed.getD j false) p = true := fun p hp => by
    obtain ⟨e, he, hb⟩ := ok.T i x p hx hp
    unfold bits
    rw [he]
    exact hbits e hb
   have hFF : ∀ p ∈ x.F, bits tn (fun j => listed.getD j false) p = false := fun p hp => by
    obtain ⟨e, he, hb⟩ := ok.F i x p hx hp
    unfold bits
    rw [he]
    exact hnl e hb (by rw [hk]; exact ok.tl p e he)
   have htt : ∀ p, x.t = some p → bits tn (fun j => listed.getD j false) p = false := fun p hp => by
    unfold bits
    rw [ok.t1 i x p hx hp]
    exact hLi
   -- on from there
   have hgd : ∀ j, (listed.setIfInBounds i true).getD j false = if j = i then true else listed.getD j false := fun j => by
    by_cases hj : j = i
    ·subst hj; simp [hsz, hil]
    rw [getD_set_ne false (Ne.symm hj), if_neg hj]
   have hfr : frY (fun j => (listed.setIfInBounds i true).getD j false) 0 D fr = E5 ws (frY (fun j => listed.getD j false) 0 D fr) := by
    funext t
    by_cases ht : t ∈ ws.map (·.1)
    ·rw [M6 D 0 i fr hDi ht (by rw [Nat.zero_add, hgd, if_pos rfl]) (fun q v hq hm hlt => by
      rw [Nat.zero_add, hgd, if_neg (by omega)]
      have hqk : q < k := by rw [← hD]; exact (List.getElem?_eq_some_iff.1 hq).1
      rcases hu i q t ws v hDi ht hq hm with h | ⟨_, h⟩ | ⟨h, _⟩
      ·omega
      ·omega
      exact hnl q h hqk)]
     exact F4 ws _ _ (.inl ht)
    rw [Fs ws _ ht]
    refine M5 D 0 fr fr (fun j v hj htv => ?_) rfl
    rw [Nat.zero_add, hgd, if_neg (fun e => by subst e; rw [hDi] at hj; injection hj with hj; subst hj; exact ht htv)]
   have hcn : (bits tn fun j => (listed.setIfInBounds i true).getD j false) = Q3 x.t (bits tn fun j => listed.getD j false) :=
    Rc (fun q => hgd q) (fun p hp => ok.t1 i x p hx hp) (fun hp => ok.t0 i x hx hp) (fun p q e h1 h2 => ok.tu p q e h1 h2)
   have hnext : ∀ (G1 : Gh) (a1 : Act) (w1 : World), StRel d G1 ⟨sz, E5 ws (frY (fun j => listed.getD j false) 0 D fr), up (Q3 x.t (bits tn fun j => listed.getD j false)), own (Q3 x.t (bits tn fun j => listed.getD j false)), dfs, rnd⟩ a1 w1 → Keep d G w G1 w1 →
     wpAnyIn F 0 P .any l.toArray Q fuel (listed.setIfInBounds i true) a1 w1 := by
    intro G1 a1 w1 hr1 hk1
    refine ih _ _ w1 G1 (by simpa using hsz) ?_ (fun j hj hjl => by rw [hgd, if_neg (by omega)]; exact htl j hj hjl) (fun q oq hq hoq e hmem hb => ?_) ?_ (hkp.trans hk1)
    ·rw [Array.toList_setIfInBounds, List.countP_set (by simpa [hsz] using hil), hcnt]
     have hil' : i < listed.size := by omega
     have : listed[i] = false := by simpa [hil'] using hLi
     simp [this]
    ·rw [hgd] at hq ⊢
     split
     ·rfl
     by_cases hqi : q = i
     ·subst hqi
      rw [ho'] at hoq
      injection hoq with hoq
      subst hoq
      exact he e hmem hb
     rw [if_neg hqi] at hq
     exact hcl q oq hq hoq e hmem hb
    rw [hfr, hcn]
    exact hr1
   have hFe : Fr (rnd.map G.blk) = F := by
    rw [← hF]; exact Bm (st' := ⟨sz, frY (fun j => listed.getD j false) 0 D fr, up fun _ => false, own fun _ => false, dfs, rnd⟩) hr0 hkp rfl
   unfold wpOpIn
   rw [ho]
   simp only
   unfold OpY at hO
   cases hW : x.W with
   | some W =>
    rw [hW] at hO
    obtain ⟨_, hge, hO⟩ := hO
    have hw : Region.wanted o (yielded l.toArray a.tmps) = true := by simp [Region.wanted, hge]
    rw [if_pos hw]
    have := hO _ _ hTT hFF htt hag G a w hst
    rw [show Fr ((St.mk sz (frY (fun j => listed.getD j false) 0 D fr) (up (bits tn fun j => listed.getD j false)) (own (bits tn fun j => listed.getD j false)) dfs rnd).rnd.map G.blk) = F from hFe] at this
    refine Ix ?_ (fun e a' w' ⟨ch, he, hp⟩ => by subst he; exact hpan _ _ _ _ (hp.next hkp (hlen _) rfl rfl)) this
    rintro a1 w1 ⟨G1, st1, hr1, hk1, _, _, _, rfl⟩
    exact hnext G1 a1 w1 hr1 hk1
   | none =>
    rw [hW] at hO
    obtain ⟨hxt, s, y, rfl, hdst, hssz, hO⟩ := hO
    replace hO := hO _ hTT hFF
    rw [hxt] at hnext
    have hput : ∀ (G1 : Gh) (v : Value) (w1 : World), StRel d G1 ⟨sz, frY (fun j => listed.getD j false) 0 D fr, up (bits tn fun j => listed.getD j false), own (bits tn fun j => listed.getD j false), dfs, rnd⟩ a w1 → Keep d G w G1 w1 → Rep G1 w1 none y v →
      wpAnyIn F 0 P .any l.toArray Q fuel (listed.setIfInBounds i true) (a.put o.dst v) w1 := by
     intro G1 v w1 hr1 hk1 hv
     refine hnext G1 _ w1 ?_ hk1
     rw [hdst]
     exact hr1.put (st := ⟨sz, frY (fun j => listed.getD j false) 0 D fr, up (bits tn fun j => listed.getD j false), own (bits tn fun j => listed.getD j false), dfs, rnd⟩) hssz hv.lift
    unfold OpD at hO
    cases hg : o.guard with
    | none =>
     rw [hg] at hO
     have hw : Region.wanted o (yielded l.toArray a.tmps) = true := by simp [Region.wanted, hg]
     rw [if_pos hw]
     have := hO _ hag G a w hst Q
     rw [show Fr ((St.mk sz (frY (fun j => listed.getD j false) 0 D fr) (up (bits tn fun j => listed.getD j false)) (own (bits tn fun j => listed.getD j false)) dfs rnd).rnd.map G.blk) = F from hFe] at this
     refine Oper.wpIn_mono ?_ this
     rintro a1 w1 ⟨G1, v, rfl, hr1, hk1, hv⟩
     exact hput G1 v w1 hr1 hk1 hv
    | some jw =>
     obtain ⟨j, want⟩ := jw
     rw [hg] at hO
     obtain ⟨oj, g, C, y'', hj, hdj, hgB, rfl, hO⟩ := hO
     have hgf : GIs (frY (fun j => listed.getD j false) 0 D fr g) want C := by
      rw [hag g (by unfold lk; rw [hg]; simp [hj, hdj])]
      exact hgB
     have hw : Region.wanted o (yielded l.toArray a.tmps) = C := Fl hst hg (by simpa using hj) hdj hgf
     rw [hw]
     cases hBw : C with
     | true =>
      rw [if_pos rfl]
      have := hO hBw _ hag G a w hst Q
      rw [show Fr ((St.mk sz (frY (fun j => listed.getD j false) 0 D fr) (up (bits tn fun j => listed.getD j false)) (own (bits tn fun j => listed.getD j false)) dfs rnd).rnd.map G.blk) = F from hFe] at this
      refine Oper.wpIn_mono ?_ this
      rintro a1 w1 ⟨G1, v, rfl, hr1, hk1, hv⟩
      exact hput G1 v w1 hr1 hk1 (by rw [hBw]; exact hv)
     | false =>
      rw [if_neg (by simp)]
      refine ⟨fun _ _ => by rw [← hFe]; trivial, ?_⟩
      exact hput G undef w hst (Keep.refl _ _ _) (by rw [hBw]; exact .v _ _)
 have hrf : ∀ j, (Array.replicate l.toArray.size false).getD j false = false := fun j => by
  rw [Array.getD_eq_getD_getElem?, Array.getElem?_replicate]
  split <;> rfl
 have hz : frY (fun j => (Array.replicate l.toArray.size false).getD j false) 0 D fr = fr := by
  funext t
  exact Gr D 0 fr fun j v _ _ => hrf _
 have hz' : (bits tn fun j => (Array.replicate l.toArray.size false).getD j false) = fun _ => false := by
  funext p
  unfold bits
  cases tn[p]? with
  | none => rfl
  | some e => exact hrf e
 refine key _ _ _ _ G0 (by simp) ?_ (fun j hj hjl => hrf j) (fun i o hi => ?_) ?_ ?_
 ·simp [List.countP_replicate]
 ·rw [hrf] at hi; cases hi
 ·rw [hz, hz']
  exact hr0.drew _
 exact (Dz G0 w0 _).keep d

theorem AW.drawY {id : Nat} {l : List Oper} {tn : List Nat} {I : List Inf} {D : List (List (Nat × AV))} {up own : (Nat → Bool) → List AObj} {fr : Nat → AV} {K : Exit → St → Prop} (M : List Nat) (hm : P.follows .mixedOrders = true) (hok : okY l tn I M = true)
  (hD : D.length = I.length) (hlen : ∀ B, (up B).length = (up fun _ => false).length)
  (hops : ∀ (i : Nat) (o : Oper) (x : Inf), l[i]? = some o → I[i]? = some x → ∃ ws, D[i]? = some ws ∧ OpY P d l sz up own dfs rnd (fun ch => K (.panic ch)) x o (frY (fun _ => true) 0 (D.take i) fr) ws)
  (hrest : ARun P d l.toArray (l.drop I.length) ⟨sz, frY (fun _ => true) 0 D fr, up (fun p => decide (p < tn.length)), own (fun p => decide (p < tn.length)), dfs, rnd⟩ (K .normal)) :
  AW P d (.region id l.toArray true) ⟨sz, fr, up fun _ => false, own fun _ => false, dfs, rnd⟩ K := fun G0 a0 w0 hr0 =>
 Tq M hm hok hD hlen hops hr0 (fun G a w hst hkp idx hidx => by
  have hz := hrest G a w hst idx hidx
  rw [Bm (st' := ⟨sz, frY (fun _ => true) 0 D fr, up (fun p => decide (p < tn.length)), own (fun p => decide (p < tn.length)), dfs, rnd⟩) hr0 hkp rfl] at hz
  exact Ap (fun e a' w' ⟨he, hp⟩ => by subst he; exact hp.next hkp (hlen _) rfl rfl) _ _ _ hz) (fun _ _ _ _ h => h.mono fun _ h => h.2)

/-! ### In the text's order, segment by segment -/
inductive SegY where
 | q (n : Nat) (T F : List Nat)
 | s (W : List Nat) (t : Option Nat) (T F : List Nat)
def SegY.inf : SegY → List Inf
 | .q n T F => List.replicate n ⟨none, none, T, F⟩
 | .s W t T F => [⟨some W, t, T, F⟩]
def Bw : List SegY → List Inf
 | [] => []
 | x :: r => x.inf ++ Bw r

def ChainY (P : Program) (d : Nat) (l0 : List Oper) (sz : Nat) (up own : (Nat → Bool) → List AObj) (dfs : List Nat) (rnd : Option Nat) (KP : List PanicEntry → St → Prop) (E : List Oper → (Nat → AV) → Prop) : List SegY → List Oper → (Nat → AV) → Prop
 | [], l, fr => E l fr
 | .q n T F :: S, l, fr => (∀ p ∈ T, p ∉ F) ∧ ∃ l2 F2, (∀ B : Nat → Bool, (∀ p ∈ T, B p = true) → (∀ p ∈ F, B p = false) → ADraw P d l0 sz (up B) (own B) dfs rnd (fun l' f => l' = l2 ∧ f = F2) n l fr) ∧ ChainY P d l0 sz up own dfs rnd KP E S l2 F2
 | .s W t T F :: S, l, fr => ∃ o l2 ws, l = o :: l2 ∧ OpY P d l0 sz up own dfs rnd KP ⟨some W, t, T, F⟩ o fr ws ∧ ChainY P d l0 sz up own dfs rnd KP E S l2 (E5 ws fr)

theorem ChainY.data {KP : List PanicEntry → St → Prop} {l0 : List Oper} {up own : (Nat → Bool) → List AObj} {E : List Oper → (Nat → AV) → Prop} : ∀ (S : List SegY) (l : List Oper) (fr : Nat → AV),
  (∀ (i j : Nat) (o z : Oper) (x y : Inf) (s : Nat), l[i]? = some o → l[j]? = some z → (Bw S)[i]? = some x → (Bw S)[j]? = some y → x.W = none → y.W = none → s ∈ slY o x → s ∈ slY z y → j = i) →
  ChainY P d l0 sz up own dfs rnd KP E S l fr → ∃ D : List (List (Nat × AV)), D.length = (Bw S).length ∧ D.length ≤ l.length ∧
   (∀ (i : Nat) (o : Oper) (x : Inf), l[i]? = some o → (Bw S)[i]? = some x → ∃ ws, D[i]? = some ws ∧ OpY P d l0 sz up own dfs rnd KP x o (frY (fun _ => true) 0 (D.take i) fr) ws) ∧
   E (l.drop D.length) (frY (fun _ => true) 0 D fr)
 | [], l, fr, U, h => ⟨[], rfl, Nat.zero_le _, fun i o x _ hx => by simp [Bw] at hx, h⟩
 | .q n T F :: S, l, fr, U, ⟨hTF, l2, F2, hA, h⟩ => by
  obtain ⟨D1, hD1, hk1, ho1, hl1, hF1⟩ := ADraw.data n l fr (hA (fun p => T.elem p) (fun p hp => List.elem_iff.2 hp) (fun p hp => by
   cases hv : T.elem p with
   | false => rfl
   | true => exact absurd hp (hTF p (List.elem_iff.1 hv))))
  have hI : ∀ i, i < n → (Bw (.q n T F :: S))[i]? = some ⟨none, none, T, F⟩ := fun i hi' => by
   show (List.replicate n _ ++ Bw S)[i]? = _
   rw [List.getElem?_append_left (by simpa using hi'), List.getElem?_replicate, if_pos hi']
  have hI2 : ∀ i, (Bw (.q n T F :: S))[n + i]? = (Bw S)[i]? := fun i => by
   show (List.replicate n _ ++ Bw S)[n + i]? = _
   rw [List.getElem?_append_right (by simp)]
   simp
  have hl2 : ∀ i, l2[i]? = l[n + i]? := fun i => by rw [← hl1, List.getElem?_drop]
  have hq : ∀ (i : Nat) (o : Oper), i < n → l[i]? = some o → ∃ s y, D1[i]? = some (s, y) ∧ o.dst = some s ∧ s < sz ∧ ∀ B : Nat → Bool, (∀ p ∈ T, B p = true) → (∀ p ∈ F, B p = false) → OpD P d l0 o sz (frL (fun _ => true) 0 (D1.take i) fr) (up B) (own B) dfs rnd y := by
   intro i o hin ho
   obtain ⟨s, y, c1, c2, c3, _⟩ := ho1 i o hin ho
   refine ⟨s, y, c1, c2, c3, fun b hb1 hb2 => ?_⟩
   obtain ⟨D1', hD1', _, ho1', _, hF1'⟩ := ADraw.data n l fr (hA b hb1 hb2)
   have same : D1 = D1' := by
    refine K8 (f := fr) (by omega) (fun i s s' y y' e1 e2 => ?_) (fun i j s y y' e1 e2 => ?_) (by rw [hF1, hF1'])
    ·have hi := (List.getElem?_eq_some_iff.1 e1).1
     have hz : l[i]? = some (l[i]'(by omega)) := List.getElem?_eq_getElem (by omega)
     obtain ⟨a, b, c1, c2, _⟩ := ho1 i _ (by omega) hz
     obtain ⟨a', b', c1', c2', _⟩ := ho1' i _ (by omega) hz
     rw [e1] at c1; rw [e2] at c1'; rw [c2] at c2'
     simp only [Option.some.injEq, Prod.mk.injEq] at c1 c1' c2'
     omega
    have hi := (List.getElem?_eq_some_iff.1 e1).1
    have hj := (List.getElem?_eq_some_iff.1 e2).1
    have hz : l[i]? = some (l[i]'(by omega)) := List.getElem?_eq_getElem (by omega)
    have hz' : l[j]? = some (l[j]'(by omega)) := List.getElem?_eq_getElem (by omega)
    obtain ⟨a, b, c1, c2, _⟩ := ho1 i _ (by omega) hz
    obtain ⟨a', b', c1', c2', _⟩ := ho1 j _ (by omega) hz'
    rw [e1] at c1; rw [e2] at c1'
    simp only [Option.some.injEq, Prod.mk.injEq] at c1 c1'
    refine (U i j _ _ _ _ s hz hz' (hI i (by omega)) (hI j (by omega)) rfl rfl ?_ ?_).symm
    ·simp [slY, c2, c1.1]
    simp [slY, c2', c1'.1]
   subst same
   obtain ⟨s', y', d1, _, _, d4⟩ := ho1' i o hin ho
   rw [c1] at d1
   simp only [Option.some.injEq, Prod.mk.injEq] at d1
   obtain ⟨rfl, rfl⟩ := d1
   exact d4
  obtain ⟨D2, hD2, hk2, ho2, hE⟩ := ChainY.data S l2 F2 (fun i j o z x y s h1 h2 h3 h4 n1 n2 h5 h6 => by
   have := U (n + i) (n + j) o z x y s (by rw [← hl2]; exact h1) (by rw [← hl2]; exact h2) (by rw [hI2]; exact h3) (by rw [hI2]; exact h4) n1 n2 h5 h6
   omega) h
  have hlen2 : l2.length = l.length - n := by rw [← hl1]; simp
  refine ⟨D1.map (fun x => [x]) ++ D2, ?_, ?_, fun i o x ho hx => ?_, ?_⟩
  ·show _ = (List.replicate n _ ++ Bw S).length
   simp [hD1, hD2]
  ·simp only [List.length_append, List.length_map]
   omega
  ·by_cases hin : i < n
   ·rw [hI i hin] at hx
    injection hx with hx
    subst hx
    obtain ⟨s, y, c1, c2, c3, c4⟩ := hq i o hin ho
    refine ⟨[(s, y)], ?_, rfl, s, y, rfl, c2, c3, fun b h1 h2 => ?_⟩
    ·rw [List.getElem?_append_left (by simp; omega), List.getElem?_map, c1]; rfl
    rw [List.take_append_of_le_length (by simp; omega), ← List.map_take, Lr]
    exact c4 b h1 h2
   obtain ⟨j, rfl⟩ : ∃ j, i = n + j := ⟨i - n, by omega⟩
   rw [hI2] at hx
   rw [← hl2] at ho
   obtain ⟨ws, c1, c2⟩ := ho2 j o x ho hx
   refine ⟨ws, ?_, ?_⟩
   ·rw [List.getElem?_append_right (by simp; omega), List.length_map, hD1, show n + j - n = j by omega]; exact c1
   have : (D1.map (fun x => [x]) ++ D2).take (n + j) = D1.map (fun x => [x]) ++ D2.take j := by
    rw [List.take_append, List.take_of_length_le (by simp; omega), List.length_map, hD1, show n + j - n = j by omega]
   rw [this, Q0, Lr, hF1]
   exact c2
  rw [Q0, Lr, hF1, List.length_append, List.length_map, hD1, ← List.drop_drop, hl1]
  exact hE
 | .s W t T F :: S, l, fr, U, ⟨o, l2, ws, hl, hO, h⟩ => by
  subst hl
  obtain ⟨D2, hD2, hk2, ho2, hE⟩ := ChainY.data S l2 _ (fun i j o' z x y s h1 h2 h3 h4 n1 n2 h5 h6 => by
   have := U (i + 1) (j + 1) o' z x y s (by simpa using h1) (by simpa using h2) (by simpa [Bw, SegY.inf] using h3) (by simpa [Bw, SegY.inf] using h4) n1 n2 h5 h6
   omega) h
  refine ⟨ws :: D2, ?_, ?_, fun i o' x ho hx => ?_, ?_⟩
  ·show _ = ([_] ++ Bw S).length
   simp [hD2]
  ·simp; omega
  ·cases i with
   | zero =>
    have e1 : o = o' := by simpa using ho
    have e2 : (⟨some W, t, T, F⟩ : Inf) = x := by simpa [Bw, SegY.inf] using hx
    subst e1; subst e2
    exact ⟨ws, rfl, hO⟩
   | succ i =>
    obtain ⟨v, c1, c2⟩ := ho2 i o' x (by simpa using ho) (by simpa [Bw, SegY.inf] using hx)
    refine ⟨v, by simpa using c1, ?_⟩
    rw [List.take_succ_cons, Hs, if_pos rfl, If _ _ 0]
    exact c2
  rw [Hs, if_pos rfl, If _ _ 0]
  simpa using hE

theorem AW.chainY {id : Nat} {l : List Oper} {tn : List Nat} {S : List SegY} {up own : (Nat → Bool) → List AObj} {up0 own0 : List AObj} {fr : Nat → AV} {K : Exit → St → Prop} (M : List Nat) (hm : P.follows .mixedOrders = true) (hok : okY l tn (Bw S) M = true)
  (h0 : up (fun _ => false) = up0) (h0' : own (fun _ => false) = own0) (hlen : ∀ B, (up B).length = up0.length)
  (h : ChainY P d l sz up own dfs rnd (fun ch => K (.panic ch)) (fun l' f => ARun P d l.toArray l' ⟨sz, f, up (fun p => decide (p < tn.length)), own (fun p => decide (p < tn.length)), dfs, rnd⟩ (K .normal)) S l fr) :
  AW P d (.region id l.toArray true) ⟨sz, fr, up0, own0, dfs, rnd⟩ K := by
 subst h0; subst h0'
 obtain ⟨D, h1, h2, h3, h4⟩ := ChainY.data S l fr (fun i j o z x y s h1 h2 h3 h4 n1 n2 h5 h6 => ((Je hok).uniq i j o z x y s h1 h2 h3 h4 h5 h6).resolve_right (fun h => h.1 ⟨n1, n2⟩)) h
 refine AW.drawY M hm hok h1 hlen h3 ?_
 rw [← h1]
 exact h4
def noW (l : List Oper) (I : List Inf) (ts : List Nat) : Bool := (l.zip I).all fun z => ts.all fun t => !((slY z.1 z.2).elem t)
/-- The same, where slots that the region doesn't write are looked at behind a panic. -/
theorem AW.chainYP {id : Nat} {l : List Oper} {tn : List Nat} {S : List SegY} {up own : (Nat → Bool) → List AObj} {up0 own0 : List AObj} {fr : Nat → AV} {K : Exit → St → Prop} (ts : List Nat) (M : List Nat) (hm : P.follows .mixedOrders = true) (hok : okY l tn (Bw S) M = true) (hts : noW l (Bw S) ts = true)
  (h0 : up (fun _ => false) = up0) (h0' : own (fun _ => false) = own0) (hlen : ∀ B, (up B).length = up0.length)
  (h : ChainY P d l sz up own dfs rnd (fun ch s => (∀ t ∈ ts, s.fr t = fr t) → K (.panic ch) s) (fun l' f => ARun P d l.toArray l' ⟨sz, f, up (fun p => decide (p < tn.length)), own (fun p => decide (p < tn.length)), dfs, rnd⟩ (K .normal)) S l fr) :
  AW P d (.region id l.toArray true) ⟨sz, fr, up0, own0, dfs, rnd⟩ K := by
 subst h0; subst h0'
 obtain ⟨D, h1, h2, h3, h4⟩ := ChainY.data S l fr (fun i j o z x y s h1 h2 h3 h4 n1 n2 h5 h6 => ((Je hok).uniq i j o z x y s h1 h2 h3 h4 h5 h6).resolve_right (fun h => h.1 ⟨n1, n2⟩)) h
 rw [h1] at h4
 have hnw : ∀ t ∈ ts, ∀ (j : Nat) (ws : List (Nat × AV)), D[j]? = some ws → t ∉ ws.map (·.1) := fun t ht j ws hj hm => by
  have hjl := (List.getElem?_eq_some_iff.1 hj).1
  have hz : l[j]? = some (l[j]'(by omega)) := List.getElem?_eq_getElem (by omega)
  have hi : (Bw S)[j]? = some ((Bw S)[j]'(by omega)) := List.getElem?_eq_getElem (by omega)
  obtain ⟨ws', a1, a2⟩ := h3 j _ _ hz hi
  rw [hj] at a1; injection a1 with a1; subst a1
  rw [a2.slots] at hm
  have h5 := List.all_eq_true.1 (List.all_eq_true.1 hts (l[j]'(by omega), (Bw S)[j]'(by omega)) (List.mem_of_getElem? (i := j) (by rw [List.getElem?_zip_eq_some]; exact ⟨hz, hi⟩))) t ht
  rw [List.elem_iff.2 hm] at h5
  cases h5
 exact fun G0 a0 w0 hr0 =>
 Tq M hm hok h1 hlen h3 hr0 (fun G a w hst hkp idx hidx => by
  have hz := h4 G a w hst idx hidx
  rw [Bm (st' := ⟨sz, frY (fun _ => true) 0 D fr, up (fun p => decide (p < tn.length)), own (fun p => decide (p < tn.length)), dfs, rnd⟩) hr0 hkp rfl] at hz
  exact Ap (fun e a' w' ⟨he, hp⟩ => by subst he; exact hp.next hkp (hlen _) rfl rfl) _ _ _ hz) (fun ch a w Lb h => h.mono fun s hs => hs.2 fun t ht => by
   rw [hs.1]
   exact Gr D 0 fr fun j ws hj hm => absurd hm (hnw t ht j ws hj))
end

/-! ### In the form in which scripts apply them -/
section
variable {P : Program} {d : Nat} {sz : Nat} {dfs : List Nat} {rnd : Option Nat} {l0 : List Oper} {up own : (Nat → Bool) → List AObj} {KP : List PanicEntry → St → Prop} {E : List Oper → (Nat → AV) → Prop} {S : List SegY} {l : List Oper} {fr : Nat → AV} {ty : TypeId} {pos : String} {aft : Array Edge} {s : Nat} {T F : List Nat}

theorem W.drawY {y : Code} {K : Exit → St → Prop} (M : List Nat) (tn : List Nat) (S : List SegY) (up own : (Nat → Bool) → List AObj) (hm : P.follows .mixedOrders = true) (hok : okY l tn (Bw S) M = true)
  (h0 : up (fun _ => false) = up0) (h0' : own (fun _ => false) = own0) (hlen : ∀ B, (up B).length = up0.length)
  (h : ChainY P d l sz up own dfs rnd (fun ch => K (.panic ch)) (fun l' f => ARun P d l.toArray l' ⟨sz, f, up (fun p => decide (p < tn.length)), own (fun p => decide (p < tn.length)), dfs, rnd⟩ (fun s => AW P d y s K)) S l fr) :
  AW P d (.seq (.region id l.toArray true) y) ⟨sz, fr, up0, own0, dfs, rnd⟩ K := AW.seq (AW.chainY M hm hok h0 h0' hlen h)
theorem W.drawY0 {K : Exit → St → Prop} (M : List Nat) (tn : List Nat) (S : List SegY) (up own : (Nat → Bool) → List AObj) (hm : P.follows .mixedOrders = true) (hok : okY l tn (Bw S) M = true)
  (h0 : up (fun _ => false) = up0) (h0' : own (fun _ => false) = own0) (hlen : ∀ B, (up B).length = up0.length)
  (h : ChainY P d l sz up own dfs rnd (fun ch => K (.panic ch)) (fun l' f => ARun P d l.toArray l' ⟨sz, f, up (fun p => decide (p < tn.length)), own (fun p => decide (p < tn.length)), dfs, rnd⟩ (K .normal)) S l fr) :
  AW P d (.region id l.toArray true) ⟨sz, fr, up0, own0, dfs, rnd⟩ K := AW.chainY M hm hok h0 h0' hlen h
theorem W.drawYP0 {K : Exit → St → Prop} (ts : List Nat) (M : List Nat) (tn : List Nat) (S : List SegY) (up own : (Nat → Bool) → List AObj) (hm : P.follows .mixedOrders = true) (hok : okY l tn (Bw S) M = true) (hts : noW l (Bw S) ts = true)
  (h0 : up (fun _ => false) = up0) (h0' : own (fun _ => false) = own0) (hlen : ∀ B, (up B).length = up0.length)
  (h : ChainY P d l sz up own dfs rnd (fun ch s => (∀ t ∈ ts, s.fr t = fr t) → K (.panic ch) s) (fun l' f => ARun P d l.toArray l' ⟨sz, f, up (fun p => decide (p < tn.length)), own (fun p => decide (p < tn.length)), dfs, rnd⟩ (K .normal)) S l fr) :
  AW P d (.region id l.toArray true) ⟨sz, fr, up0, own0, dfs, rnd⟩ K := AW.chainYP ts M hm hok hts h0 h0' hlen h
theorem Y.q {n : Nat} {l2 : List Oper} {F2 : Nat → AV} (h1 : ∀ B : Nat → Bool, (∀ p ∈ T, B p = true) → (∀ p ∈ F, B p = false) → ADraw P d l0 sz (up B) (own B) dfs rnd (fun l' f => l' = l2 ∧ f = F2) n l fr) (h2 : ChainY P d l0 sz up own dfs rnd KP E S l2 F2) (hTF : ∀ p ∈ T, p ∉ F := by decide) :
  ChainY P d l0 sz up own dfs rnd KP E (.q n T F :: S) l fr := ⟨hTF, l2, F2, h1, h2⟩
theorem Y.tail {tn : List Nat} {Q : St → Prop} {U O : List AObj} (h : ARun P d l0.toArray l ⟨sz, fr, U, O, dfs, rnd⟩ Q) (hU : up (fun p => decide (p < tn.length)) = U := by rfl) (hO : own (fun p => decide (p < tn.length)) = O := by rfl) : ChainY P d l0 sz up own dfs rnd KP (fun l' f => ARun P d l0.toArray l' ⟨sz, f, up (fun p => decide (p < tn.length)), own (fun p => decide (p < tn.length)), dfs, rnd⟩ Q) [] l fr := by
 subst hU; subst hO; exact h
theorem AOp.eqTo {st s1 s2 : St} (h : AOp P d o st (· = s1)) (e : s1 = s2) : AOp P d o st (· = s2) := e ▸ h
/-- The p-th of those that turn the heap: it takes what a cell of an object of whoever waits owns. -/
theorem Y.loadUpT {t t' : TypeId} {p : Operand} {o off pn : Nat} {y z : AV} {cs cs' : List AV} (hagg : ∀ w, (isAgg t).run P w = .ok false w)
  (hU : ∀ B : Nat → Bool, B pn = false → (up B)[o]? = some (.cells t' cs) ∧ up (upd B pn) = (up B).set o (.cells t' cs') ∧ own (upd B pn) = own B)
  (h : ChainY P d l0 sz up own dfs rnd KP E S l (A5 s y fr)) 
  (hp : A8 fr p = .ptr o off := by exact sL0) (hy : cs[off]? = some y := by rfl) (hz : y.strip = z := by exact sL0) (hcs : cs.set off z = cs' := by exact sL0) (hs : Nat.blt s sz = true := by rfl) :
  ChainY P d l0 sz up own dfs rnd KP E (.s [s] (some pn) T F :: S) (⟨some s, .load t p, ty, pos, aft, none⟩ :: l) fr := by
 subst hz
 subst hcs
 refine ⟨_, l, [(s, y)], rfl, ⟨rfl, rfl, fun B f _ _ hB hf => .of ?_⟩, h⟩
 obtain ⟨a1, a2, a3⟩ := hU B (hB pn rfl)
 have e : A8 f p = .ptr o off := by rw [agr hf (by simp [Op.operands])]; exact hp
 refine AOp.eqTo (AOp.loadUpT (st := ⟨sz, f, up B, own B, dfs, rnd⟩) hagg e a1 hy (by simpa using hs)) ?_
 show _ = St.mk sz (E5 [(s, y)] f) (up (upd B pn)) (own (upd B pn)) dfs rnd
 rw [a2, a3]
 rfl
/-- The p-th of those that turn the heap: a call that turns one object. -/
theorem Y.callVUp {f0 : Operand} {g : FuncId} {xs : List Operand} {ats : Array TypeId} {first caps args : List AV} {r : AV} {o pn : Nat} {x x0 : AObj} (hcall : ∀ args w, (callFunc g args).run P w = .ok (.enter g args) w)
  (hU : ∀ B : Nat → Bool, (∀ p ∈ T, B p = true) → (∀ p ∈ F, B p = false) → B pn = false → (up B)[o]? = some x0 ∧ up (upd B pn) = (up B).set o x ∧ own (upd B pn) = own B ∧ ObjLow (up B).length x ∧ ACall P g args (up B ++ own B) (fun y H' => y = r ∧ H' = (up B ++ own B).set o x))
  (h : ChainY P d l0 sz up own dfs rnd KP E S l (A5 s r fr)) (hx0' : x0 ≠ .defs := by simp)
  (hf0 : A8 fr f0 = .fn (.func g) first caps := by exact sL0) (ha : first ++ xs.map (A8 fr) ++ caps = args := by exact sL0) (hs : Nat.blt s sz = true := by rfl) :
  ChainY P d l0 sz up own dfs rnd KP E (.s [s] (some pn) T F :: S) (⟨some s, .call ⟨.value f0, xs.toArray, ats⟩, ty, pos, aft, none⟩ :: l) fr := by
 refine ⟨_, l, [(s, r)], rfl, ⟨rfl, rfl, fun B f hT hF hB hf => .of ?_⟩, h⟩
 obtain ⟨a1, a2, a3, a4, a5⟩ := hU B hT hF (hB pn rfl)
 have hlt := (List.getElem?_eq_some_iff.1 a1).1
 have e : first ++ xs.map (A8 f) ++ caps = args := by rw [Tp hf (fun x hx => by simp [Op.operands, Call.operands, hx])]; exact ha
 have e0 : A8 f f0 = .fn (.func g) first caps := by rw [agr hf (by simp [Op.operands, Call.operands])]; exact hf0
 refine AOp.callG (st := ⟨sz, f, up B, own B, dfs, rnd⟩) (first := first) (caps := caps) hcall e0 (by rw [← e] <;> rfl) a5 (by simpa using hs) (fun y H' _ hy => ?_)
 obtain ⟨rfl, rfl⟩ := hy
 refine ⟨(up B).set o x, own B, Bi hlt, by simp, fun h => by simp only [List.length_set] at h ⊢; exact Cy h a4, fun hd o' ho => ?_, ?_⟩
 ·have := hd o' ho
  rw [← Bi hlt, List.getElem?_set]
  split
  ·rename_i e
   subst e
   rw [A6 a1] at this
   injection this with this
   exact absurd this hx0'
  exact this
 show St.mk sz (A5 s y f) ((up B).set o x) (own B) dfs rnd = St.mk sz (E5 [(s, y)] f) (up (upd B pn)) (own (upd B pn)) dfs rnd
 rw [a2, a3]
 rfl
theorem Y.callUp {ats : Array TypeId} {o : Nat} (hcall : ∀ args w, (callFunc g args).run P w = .ok (.enter g args) w)
  (hU : ∀ B : Nat → Bool, (∀ p ∈ T, B p = true) → (∀ p ∈ F, B p = false) → B pn = false → (up B)[o]? = some x0 ∧ up (upd B pn) = (up B).set o x ∧ own (upd B pn) = own B ∧ ObjLow (up B).length x ∧ ACall P g args (up B ++ own B) (fun y H' => y = r ∧ H' = (up B ++ own B).set o x))
  (h : ChainY P d l0 sz up own dfs rnd KP E S l (A5 s r fr)) (hx0' : x0 ≠ .defs := by simp)
  (ha : xs.map (A8 fr) = args := by exact sL0) (hs : Nat.blt s sz = true := by rfl) :
  ChainY P d l0 sz up own dfs rnd KP E (.s [s] (some pn) T F :: S) (⟨some s, .call ⟨.value (.func g), xs.toArray, ats⟩, ty, pos, aft, none⟩ :: l) fr :=
 Y.callVUp (f0 := .func g) (first := []) (caps := []) hcall hU h hx0' rfl (by rw [← ha]; simp) hs
theorem Y.append {t e : TypeId} {i : TypeInfo} {z : Value} {k r : Nat} {x : Operand} {o2 : Bool} {b z' y : AV} {xs ys zs : List AV} (hu : P.underlying t = some (.slice e)) (hi' : P.info? e = some i) (hl : (xs.length + ys.length) * i.bytes ≤ 140737488355328) (hl2 : xs.length + ys.length ≤ 4611686018427387904)
  (h : ChainY P d l0 sz up own dfs rnd KP E S l (A5 s (.slice true k zs) (A5 r z' fr)))
  (hz : i.zero = some z := by rfl) (hsz : i.size = k := by rfl) (hzk : z.cells.size = k := by rfl) (hk : 0 < k := by decide) (hb : fr r = b := by exact sL0) (hb' : F9 b true k xs := by first | exact .inl rfl | exact .inr ⟨rfl, rfl⟩)
  (hx : A8 fr x = y := by exact sL0) (hx' : F9 y o2 k ys := by first | exact .inl rfl | exact .inr ⟨rfl, rfl⟩) (hrs : s ≠ r := by decide) (hz' : b.strip = z' := by exact sL0) (hzs : xs ++ ys = zs := by first | rfl | (simp only [go_sem, ↓reduceIte, Nat.reduceEqDiff, Nat.reduceAdd] <;> rfl)) (hs : Nat.blt s sz = true := by rfl) :
  ChainY P d l0 sz up own dfs rnd KP E (.s [r, s] none T F :: S) (⟨some s, .call ⟨.builtin .append, #[.tmp r, x], #[t, t]⟩, ty, pos, aft, none⟩ :: l) fr := by
 subst hzs
 subst hz'
 subst hb
 refine ⟨_, l, [(r, (fr r).strip), (s, .slice true k (xs ++ ys))], rfl, ⟨rfl, rfl, fun B f _ _ _ hf => .of ?_⟩, h⟩
 have e : f r = fr r := hf r (by simp [lk, Pu, Op.operands, Call.operands])
 have ex : A8 f x = y := by rw [agr hf (by simp [Op.operands, Call.operands])]; exact hx
 refine AOp.eqTo (AOp.append (st := ⟨sz, f, up B, own B, dfs, rnd⟩) (r := r) hu hi' hz hsz rfl hzk hk (by show F9 (f r) _ _ _; rw [e]; exact hb') (by show F9 (A8 f x) _ _ _; rw [ex]; exact hx') hrs (by simpa using hs) hl hl2) ?_
 simp only [St.set, e]
 rfl
end
section
variable {P : Program} {d : Nat} {sz : Nat} {up own : List AObj} {dfs : List Nat} {rnd : Option Nat} {l0 rest : List Oper} {E : List Oper → (Nat → AV) → Prop} {fr : Nat → AV} {kd s : Nat} {ty : TypeId} {pos : String} {aft : Array Edge}
theorem D.buildSlice {t e : TypeId} {k len : Nat} {z : Value} {parts : List (Nat × Operand)} {ys : List AV} (hu : P.underlying t = some (.slice e)) (hsz : ∀ w, (Go.sizeOf e).run P w = .ok k w) (hz : ∀ w, (zeroValue e).run P w = .ok z w)
  (hr : ADraw P d l0 sz up own dfs rnd E kd rest (A5 s (.slice false k ys) fr)) (hp : parts.toArray = (((parts.map Prod.snd).zipIdx).map fun x => (x.2, x.1)).toArray := by rfl) (hev : (parts.map Prod.snd).map (A8 fr) = ys := by exact sL0)
  (hk : ys.all (fun y => decide (y.cells.length = k) && y.cells.all AV.one) = true := by simp [go_sem]) (hl : len = ys.length := by rfl) (hlen : ys.length * k ≤ 16777216 := by exact sL3) (hs : Nat.blt s sz = true := by rfl) :
  ADraw P d l0 sz up own dfs rnd E (kd + 1) (⟨some s, .buildSlice t len parts.toArray, ty, pos, aft, none⟩ :: rest) fr := by
 have h2 : ∀ y ∈ ys, y.cells.length = k ∧ y.cells.all AV.one = true := fun y hy => by simpa using List.all_eq_true.1 hk y hy
 refine ⟨s, _, rfl, by simpa using hs, fun f0 hag => ?_, hr⟩
 have e1 : (parts.map Prod.snd).map (A8 f0) = ys := by
  rw [Tp hag (fun x hx => by simp [Op.operands] at hx ⊢; exact hx)]; exact hev
 exact OpV.buildSlice (st := ⟨sz, f0, up, own, dfs, rnd⟩) hu hsz hz e1 (fun y hy => (h2 y hy).1) (fun y hy c hc => List.all_eq_true.1 (h2 y hy).2 c hc) hlen hl hp
variable {ops : Array Oper} {Q : St → Prop}
/-- A guarded operation that turns the heap, whatever the guard says. -/
theorem ARun.guardA {o oj : Oper} {j g s : Nat} {want C : Bool} {rest : List Oper} {Q Q1 : St → Prop} (hg : o.guard = some (j, want)) (hj : ops[j]? = some oj) (hdj : oj.dst = some g)
  (hgs : GIs (fr g) want C) (hd : o.dst = some s) (hs : Nat.blt s sz = true) (h : C = true → AOp P d o ⟨sz, fr, up, own, dfs, rnd⟩ Q1) (hr : C = true → ∀ s', Q1 s' → ARun P d ops rest s' Q) (h0 : C = false → ARun P d ops rest ⟨sz, A5 s (.v undef) fr, up, own, dfs, rnd⟩ Q) :
  ARun P d ops (o :: rest) ⟨sz, fr, up, own, dfs, rnd⟩ Q := by
 have hs : s < sz := by simpa using hs
 intro G a w hrel idx hidx
 cases idx with
 | nil => simp at hidx
 | cons i r =>
  simp only [List.map_cons, List.cons.injEq] at hidx
  simp only [wpOpsIn, hidx.1]
  have hw : Region.wanted o (yielded ops a.tmps) = C := Fl hrel hg hj hdj hgs
  rw [hw]
  cases C with
  | true =>
   rw [if_pos rfl]
   refine El ?_ (h rfl G a w hrel _)
   rintro a1 w1 ⟨G1, s1, h1, k1, e1, e2, e3, hk⟩
   have := hr rfl s1 hk G1 a1 w1 h1 r hidx.2
   rw [Bm h1 (Keep.refl d _ _) rfl, Bm hrel k1 e2] at this
   exact Ap (fun e a' w' hp => ⟨hp.1, hp.2.next k1 e1 e2 e3⟩) r a1 w1 this
  | false =>
   rw [if_neg (by simp)]
   refine ⟨fun _ _ => trivial, ?_⟩
   rw [hd]
   exact h0 rfl G _ w (hrel.put (st := ⟨sz, fr, up, own, dfs, rnd⟩) hs (.v _ _)) r hidx.2
theorem G.yield {f : Operand} {xs : List Operand} {ats : Array TypeId} {l : Nat} {args : List AV} {post : Bool → List AObj → Prop} {oj : Oper} {j g : Nat} {want C : Bool} (h : C = true → AYield P l args (up ++ own) post)
  (hp : ∀ b U O, U.length = up.length → (C = true → post b (U ++ O)) → (C = false → U = up ∧ O = own) → ((∀ x ∈ up, ObjLow U.length x) → ∀ x ∈ U, ObjLow U.length x) ∧ (∀ o ∈ dfs, (up ++ own)[o]? = some .defs → (U ++ O)[o]? = some .defs) ∧ ARun P d ops rest ⟨sz, A5 s (gAV C (.v (.bool b))) fr, U, O, dfs, rnd⟩ Q)
  (hj : ops[j]? = some oj := by rfl) (hdj : oj.dst = some g := by rfl) (hgs : GIs (fr g) want C := by exact sL2)
  (hf : C = true → A8 fr f = .yield l := by intro hB; simp only [go_sem, hB, ↓reduceIte, Nat.reduceEqDiff, Nat.reduceAdd] <;> rfl) (ha : C = true → xs.map (A8 fr) = args := by intro hB; simp only [go_sem, hB, ↓reduceIte, Nat.reduceEqDiff, Nat.reduceAdd] <;> rfl) (hs : Nat.blt s sz = true := by rfl) :
  ARun P d ops (⟨some s, .call ⟨.value f, xs.toArray, ats⟩, ty, pos, aft, some (j, want)⟩ :: rest) ⟨sz, fr, up, own, dfs, rnd⟩ Q := by
 refine ARun.guardA (Q1 := fun s' => ARun P d ops rest s' Q) rfl hj hdj hgs rfl hs (fun hB => AOp.yield (st := ⟨sz, fr, up, own, dfs, rnd⟩) (hf hB) (ha hB) (h hB) (by simpa using hs) (fun b H' hl hy => ?_)) (fun _ s' e => e) (fun hB => ?_)
 ·have hl' : up.length ≤ H'.length := by rw [hl]; simp
  have e : H' = H'.take up.length ++ H'.drop up.length := (List.take_append_drop _ _).symm
  rw [e] at hy
  obtain ⟨h1, h2, h3⟩ := hp b _ _ (by simp; omega) (fun _ => hy) (fun e => by rw [hB] at e; cases e)
  refine ⟨_, _, e, by simp; omega, h1, fun hd o ho => h2 o ho (hd o ho), ?_⟩
  rw [hB] at h3
  exact h3
 obtain ⟨_, _, h3⟩ := hp true up own rfl (fun e => by rw [hB] at e; cases e) (fun _ => ⟨rfl, rfl⟩)
 rw [hB] at h3
 exact h3
/-- A call of a function value that turns one object of whoever waits. -/
theorem R.callVUp {f : Operand} {g : FuncId} {xs : List Operand} {ats : Array TypeId} {first caps args : List AV} {r : AV} {i : Nat} {x x0 : AObj} (hcall : ∀ args w, (callFunc g args).run P w = .ok (.enter g args) w) (hi : up[i]? = some x0) (hx0' : x0 ≠ .defs) (hlow : ObjLow up.length x) (h : ACall P g args (up ++ own) (fun y H' => y = r ∧ H' = (up ++ own).set i x)) (hr : ARun P d ops rest ⟨sz, A5 s r fr, up.set i x, own, dfs, rnd⟩ Q)
  (hf : A8 fr f = .fn (.func g) first caps := by exact sL0) (ha : first ++ xs.map (A8 fr) ++ caps = args := by exact sL0) (hs : Nat.blt s sz = true := by rfl) :
  ARun P d ops (⟨some s, .call ⟨.value f, xs.toArray, ats⟩, ty, pos, aft, none⟩ :: rest) ⟨sz, fr, up, own, dfs, rnd⟩ Q := by
 have hlt := (List.getElem?_eq_some_iff.1 hi).1
 refine ARun.op rfl (AOp.callG (st := ⟨sz, fr, up, own, dfs, rnd⟩) (Q := (· = ⟨sz, A5 s r fr, up.set i x, own, dfs, rnd⟩)) (first := first) (caps := caps) hcall hf (by rw [← ha] <;> rfl) h (by simpa using hs) (fun y H' _ hy => ?_)) (fun s' e => by subst e; exact hr)
 obtain ⟨rfl, rfl⟩ := hy
 refine ⟨up.set i x, own, Bi hlt, by simp, fun h => by simp only [List.length_set] at h ⊢; exact Cy h hlow, fun hd o ho => ?_, rfl⟩
 have := hd o ho
 rw [← Bi hlt, List.getElem?_set]
 split
 ·rename_i e
  subst e
  rw [A6 hi] at this
  injection this with this
  exact absurd this hx0'
 exact this
end
end Go.SX
namespace Go.SX
variable [GI : GlobInv]
open Classical
section
variable {P : Program} {d : Nat}

theorem StRel.appendPut {t e ty : TypeId} {i : TypeInfo} {z : Value} {r s : Nat} {x : Operand} {o2 : Bool} {xs : List AV} {z0 yv : AV} {uy : Value} {st : St} {a : Act} {w : World} {G : Gh} {k by' : Nat}
  (hu : P.underlying t = some (.slice e)) (hi : P.info? e = some i) (hz : i.zero = some z) (hsz : i.size = k) (hby : i.bytes = by') (hzk : z.cells.size = k) (hk : 0 < k)
  (hb : F9 (st.fr r) true k xs) (hx : F9 (st.ev x) o2 k [z0]) (hrs : s ≠ r) (hs : s < st.sz) (hl : (xs.length + 1) * by' ≤ 140737488355328) (hl2 : xs.length + 1 ≤ 4611686018427387904)
  (hy : Rep G w none yv uy) (hyk : yv.cells.length = k) (hy1 : ∀ c ∈ yv.cells, c.one = true) (h : StRel d G st a w) :
  ∃ (w1 : World) (ad : Addr) (cap : Nat) (G' : Gh), (Builtin.append_ #[t, t] ty #[a.tmps.getD r undef, a.eval x]).run P w = .ok (.slice (some ad) (xs.length + 1) cap) w1 ∧ ad.spot = none ∧
   (∀ j, j < k → (w1.cell? ⟨ad.block, ad.off + xs.length * k + j, none⟩).isSome = true ∧ w1.frozen? ⟨ad.block, ad.off + xs.length * k + j, none⟩ = false) ∧
   StRel d G' ((st.set r (st.fr r).strip).set s (.slice true k (xs ++ [yv]))) (a.put (some s) (.slice (some ad) (xs.length + 1) cap)) (w1.setCells ad.block (ad.off + xs.length * k) uy.cells.toList) ∧
   Keep d G w G' (w1.setCells ad.block (ad.off + xs.length * k) uy.cells.toList) := by
 subst hsz
 subst hby
 have hrb := h.slots r
 have hrx := h.eval x
 obtain ⟨hcs, hcc⟩ := hy.cells hy1
 obtain ⟨news, hnews⟩ : ∃ l, l = uy.cells.toList := ⟨_, rfl⟩
 have hnl : news.length = i.size := by rw [hnews, Array.length_toList, hcs, hyk]
 rw [← hnews]
 have hnat : ∀ (j : Nat) (c : AV), yv.cells[j]? = some c → ∃ u, news[j]? = some u ∧ Rep G w none c u := fun j c hj => by
  have hjl : j < i.size := by rw [← hyk]; exact (List.getElem?_eq_some_iff.1 hj).1
  have hju : uy.cells[j]? = some (uy.cells[j]'(by omega)) := Array.getElem?_eq_getElem (by omega)
  have e : news[j]? = uy.cells[j]? := by rw [hnews, Array.getElem?_toList]
  exact ⟨_, e.trans hju, hcc j c _ hj hju⟩
 obtain ⟨fy, hfy⟩ : ∃ f : Nat → Value, ∀ j u, news[j]? = some u → f j = u := ⟨fun j => (news[j]?).getD undef, fun j u hj => by simp [hj]⟩
 have hnat' : ∀ (j : Nat) (c : AV), yv.cells[j]? = some c → news[j]? = some (fy j) ∧ Rep G w none c (fy j) := fun j c hj => by
  obtain ⟨u, h1, h2⟩ := hnat j c hj
  rw [hfy j u h1]
  exact ⟨h1, h2⟩
 have hget : ∀ (q : Nat) (y : AV), (xs ++ [yv])[q]? = some y → (q < xs.length ∧ xs[q]? = some y) ∨ (q = xs.length ∧ y = yv) := fun q y hq => by
  rcases Nat.lt_or_ge q xs.length with h' | h'
  ·rw [List.getElem?_append_left h'] at hq; exact .inl ⟨h', hq⟩
  rw [List.getElem?_append_right h'] at hq
  have hql := (List.getElem?_eq_some_iff.1 hq).1
  simp only [List.length_singleton] at hql
  have e0 : q - xs.length = 0 := by omega
  rw [e0] at hq
  exact .inr ⟨by omega, by simpa using hq.symm⟩
 have repFix : ∀ (tag' : Nat → Nat → Tag) (w' : World), (∀ b o, G.tag b o = .fix → tag' b o = .fix ∧ w'.cell? ⟨b, o, none⟩ = w.cell? ⟨b, o, none⟩) → ∀ {y : AV} {u : Value}, Rep G w none y u → Rep { G with tag := tag' } w' none y u := fun tag' w' hf y u hy =>
  hy.mono (G' := { G with tag := tag' }) hf (Nat.le_refl _) (fun _ _ => rfl) (fun L hL => by cases hL)
 obtain ⟨ad2, c2, f2, hvx, hc2, F2⟩ : ∃ ad c f, a.eval x = .slice (some ad) 1 c ∧ 1 ≤ c ∧ Flat G w i.size [z0] ad f := by
  rcases Em hx hrx with ⟨_, hn⟩ | ⟨ad, c, f, h1, h2, h3, _⟩
  ·cases hn
  exact ⟨ad, c, f, h1, h2, h3⟩
 let zs := B3 i.size 1 f2
 have hzl : zs.length = i.size := by have := Ah i.size 1 f2; simp only [zs, this]; omega
 -- a new row
 have grown : ∀ (old : List Value) (cap : Nat) (f : Nat → Nat → Value) (rest : Array Value), xs.length + 1 ≤ cap → old.length = xs.length * i.size → rest.size = (cap - (xs.length + 1)) * i.size →
   (∀ (q : Nat) (y : AV) (j : Nat) (c : AV), xs[q]? = some y → y.cells[j]? = some c → old[q * i.size + j]? = some (f q j) ∧ Rep G w none c (f q j)) →
   (∀ y ∈ xs, y.cells.length = i.size) → (∀ y ∈ xs, ∀ c ∈ y.cells, c.one = true) →
   (Builtin.append_ #[t, t] ty #[a.tmps.getD r undef, a.eval x]).run P w = .ok (.slice (some ⟨w.heap.size, 0, none⟩) (xs.length + 1) cap) (w.drew.alloc (.cells (old.toArray ++ zs.toArray ++ rest) e)) →
   ∃ (w1 : World) (ad : Addr) (cap : Nat) (G' : Gh), (Builtin.append_ #[t, t] ty #[a.tmps.getD r undef, a.eval x]).run P w = .ok (.slice (some ad) (xs.length + 1) cap) w1 ∧ ad.spot = none ∧
    (∀ j, j < i.size → (w1.cell? ⟨ad.block, ad.off + xs.length * i.size + j, none⟩).isSome = true ∧ w1.frozen? ⟨ad.block, ad.off + xs.length * i.size + j, none⟩ = false) ∧
    StRel d G' ((st.set r (st.fr r).strip).set s (.slice true i.size (xs ++ [yv]))) (a.put (some s) (.slice (some ad) (xs.length + 1) cap)) (w1.setCells ad.block (ad.off + xs.length * i.size) news) ∧
    Keep d G w G' (w1.setCells ad.block (ad.off + xs.length * i.size) news) := by
  intro old cap f rest hcap hlo hrest hf hkk hone hv
  obtain ⟨w1, hw1⟩ : ∃ w1, w1 = w.drew.alloc (.cells (old.toArray ++ zs.toArray ++ rest) e) := ⟨_, rfl⟩
  obtain ⟨W, hW⟩ : ∃ W, W = w1.setCells w.heap.size (xs.length * i.size) news := ⟨_, rfl⟩
  let tag' : Nat → Nat → Tag := fun b o => if b = w.heap.size then (if o < (xs.length + 1) * i.size then .fix else if o < cap * i.size then .tail (.slot d s) else .free) else G.tag b o
  have hT : (xs.length + 1) * i.size = xs.length * i.size + i.size := by rw [Nat.add_mul]; omega
  have hTc : (xs.length + 1) * i.size ≤ cap * i.size := Nat.mul_le_mul_right _ hcap
  have hsize : (old.toArray ++ zs.toArray ++ rest).size = cap * i.size := by
   simp only [Array.size_append, List.size_toArray, hrest, hlo, hzl]
   rw [← hT, ← Nat.add_mul]; congr 1; omega
  have hnew1 : ∀ o, w1.cell? ⟨w.heap.size, o, none⟩ = (old.toArray ++ zs.toArray ++ rest)[o]? := fun o => by rw [hw1]; exact World.cell?_alloc_new w.drew _ _ o
  have hex1 : ∀ o, o < cap * i.size → (w1.cell? ⟨w.heap.size, o, none⟩).isSome = true := fun o ho => by rw [hnew1, Array.getElem?_eq_getElem (by rw [hsize]; exact ho)]; rfl
  have hexW : ∀ j, j < news.length → (w1.cell? ⟨w.heap.size, xs.length * i.size + j, none⟩).isSome = true := fun j hj => hex1 _ (by omega)
  have hold : ∀ b o, b ≠ w.heap.size → W.cell? ⟨b, o, none⟩ = w.cell? ⟨b, o, none⟩ := fun b o hb => by
   rw [hW, World.cell?_setCells_out _ _ _ _ _ (fun e _ => absurd e hb), hw1, World.cell?_alloc_old _ _ _ (by exact hb)]
   rfl
  have hin : ∀ j (hj : j < news.length), W.cell? ⟨w.heap.size, xs.length * i.size + j, none⟩ = some news[j] := fun j hj => by rw [hW]; exact World.cell?_setCells_in w.heap.size news _ w1 hexW j hj
  have hout : ∀ o, (o < xs.length * i.size ∨ xs.length * i.size + i.size ≤ o) → W.cell? ⟨w.heap.size, o, none⟩ = (old.toArray ++ zs.toArray ++ rest)[o]? := fun o ho => by
   rw [hW, World.cell?_setCells_out _ _ _ _ _ (fun _ _ => by simp only; omega), hnew1]
  have hexA : ∀ o, o < cap * i.size → ∃ u, W.cell? ⟨w.heap.size, o, none⟩ = some u := fun o ho => by
   by_cases hc : o < xs.length * i.size ∨ xs.length * i.size + i.size ≤ o
   ·rw [hout o hc]; exact ⟨_, Array.getElem?_eq_getElem (by rw [hsize]; exact ho)⟩
   have := hin (o - xs.length * i.size) (by omega)
   rw [show xs.length * i.size + (o - xs.length * i.size) = o by omega] at this
   exact ⟨_, this⟩
  have hnb : ∀ b o, G.tag b o ≠ .free → b ≠ w.heap.size := fun b o hb e => hb (Cx h.tags b o (by omega))
  have hfz1 : ∀ o, w1.frozen? ⟨w.heap.size, o, none⟩ = false := fun o => by rw [hw1]; exact World.frozen?_alloc_new w.drew _ _ o
  have hhb : ∀ b, b ≠ w.heap.size → W.heap[b]? = w.heap[b]? := fun b hb => by
   rw [hW, Bq _ _ _ _ _ hb, hw1]
   show (w.heap.push _)[b]? = _
   rw [Array.getElem?_push, if_neg hb]
  obtain ⟨h1, h2⟩ := h.rows (w' := W) hrs tag' (fun b o => by
    simp only [tag']
    by_cases hb : b = w.heap.size
    ·rw [if_pos hb]
     have hfree := Cx h.tags b o (by omega)
     split
     ·exact .inr ⟨.inl hfree, .inl rfl⟩
     split
     ·exact .inr ⟨.inl hfree, .inr rfl⟩
     exact .inl hfree.symm
    rw [if_neg hb]; exact .inl rfl)
   (fun b o hb _ => hold b o (hnb b o hb))
   (fun b o hb => by
    by_cases hB : b = w.heap.size
    ·subst hB
     simp only [tag', if_true] at hb
     have hlt : o < cap * i.size := by
      rcases Nat.lt_or_ge o (cap * i.size) with h' | h'
      ·exact h'
      rw [if_neg (by omega), if_neg (by omega)] at hb
      exact absurd rfl hb
     exact hexA o hlt
    simp only [tag', if_neg hB] at hb
    rw [hold b o hB]
    exact h.tags.ex b o hb)
   (fun b o L hb => by
    rw [hW, World.frozen?_setCells]
    by_cases hB : b = w.heap.size
    ·subst hB; exact hfz1 o
    simp only [tag', if_neg hB] at hb
    rw [hw1, World.frozen?_alloc_old _ _ _ (by exact hB)]
    exact h.tags.tail b o L hb)
   (fun b o q hb => by
    rw [hW, World.frozen?_setCells]
    by_cases hB : b = w.heap.size
    ·subst hB; exact hfz1 o
    simp only [tag', if_neg hB] at hb
    rw [hw1, World.frozen?_alloc_old _ _ _ (by exact hB)]
    exact h.tags.obj b o q hb)
   (fun b hb _ => hhb _ (by omega)) (by rw [hW, Dj, hw1]; rfl) (by rw [hW, Cp, hw1]; rfl) (by rw [hW, C7, hw1]; rfl) (by rw [hW, Bp, hw1]; simp)
   (Still.tags (fun b hb => hhb b (by have := hb.1; omega)) (by rw [hW, Bp, hw1]; simp) (fun b o hb => .inl (by show tag' b o = _; simp only [tag']; rw [if_neg (by omega)])) (fun i hi => .inl ⟨hi, rfl⟩)) hs
   (v := .slice (some ⟨w.heap.size, 0, none⟩) (xs.length + 1) cap) (y := .slice true i.size (xs ++ [yv])) (by
    have hfx : ∀ b o, G.tag b o = .fix → tag' b o = .fix ∧ W.cell? ⟨b, o, none⟩ = w.cell? ⟨b, o, none⟩ := fun b o hb => by
     have hB := hnb b o (by rw [hb]; simp)
     exact ⟨by simp only [tag', if_neg hB]; exact hb, hold b o hB⟩
    refine .slice _ true i.size _ ⟨w.heap.size, 0, none⟩ _ cap (fun q j => if q < xs.length then f q j else fy j) rfl (by simp) hcap (fun y hy => ?_) (fun y hy => ?_) (fun q y j c hq hj => ?_) (fun q y j c hq hj => ?_) (fun _ => ⟨_, rfl, fun o h1 h2 => ?_⟩)
    ·rcases List.mem_append.1 hy with hy | hy
     ·exact hkk y hy
     rw [List.mem_singleton.1 hy]; exact hyk
    ·rcases List.mem_append.1 hy with hy | hy
     ·exact hone y hy
     rw [List.mem_singleton.1 hy]; exact hy1
    ·rcases hget q y hq with ⟨hlt, hq'⟩ | ⟨rfl, rfl⟩
     ·have hjl : j < i.size := by
       have := (List.getElem?_eq_some_iff.1 hj).1
       rw [hkk y (List.mem_of_getElem? hq')] at this; exact this
      have hqj : q * i.size + j < xs.length * i.size := by
       have : (q + 1) * i.size ≤ xs.length * i.size := Nat.mul_le_mul_right _ hlt
       rw [Nat.add_mul] at this; omega
      simp only [Nat.zero_add, tag', if_true, if_pos hlt]
      rw [if_pos (by omega), hout _ (.inl hqj)]
      refine ⟨rfl, ?_⟩
      rw [← (hf q y j c hq' hj).1, Array.getElem?_append_left (by simp only [Array.size_append, List.size_toArray]; omega), Array.getElem?_append_left (by simp only [List.size_toArray]; omega)]
      simp
     have hjl : j < i.size := by
      have := (List.getElem?_eq_some_iff.1 hj).1
      omega
     simp only [Nat.zero_add, tag', if_true, Nat.lt_irrefl, if_false]
     rw [if_pos (by omega), hin j (by omega)]
     have := (hnat' j c hj).1
     rw [List.getElem?_eq_getElem (by omega)] at this
     exact ⟨rfl, this⟩
    ·rcases hget q y hq with ⟨hlt, hq'⟩ | ⟨rfl, rfl⟩
     ·simp only [if_pos hlt]
      exact repFix tag' _ hfx (hf q y j c hq' hj).2
     simp only [Nat.lt_irrefl, if_false]
     exact repFix tag' _ hfx (hnat' j c hj).2
    simp only [Nat.zero_add] at h1 h2
    have h1 : (xs.length + 1) * i.size ≤ o := by simpa using h1
    simp only [tag', if_true]
    rw [if_neg (by omega), if_pos h2])
  refine ⟨w1, ⟨w.heap.size, 0, none⟩, cap, { G with tag := tag' }, by rw [hw1]; exact hv, rfl, fun j hj => ?_, ?_, ?_⟩
  ·simp only [Nat.zero_add]
   exact ⟨hex1 _ (by omega), hfz1 _⟩
  ·simp only [Nat.zero_add]
   rw [← hW]
   exact h1
  simp only [Nat.zero_add]
  rw [← hW]
  exact h2
 rcases Em hb hrb with ⟨hvb, rfl⟩ | ⟨ad, c, f, hvb, hc, F, hown⟩
 ·have hge := E4 w 1 0 e
  refine grown [] (grownCap w 1 0 e) (fun _ _ => undef) (Builtin.zeroCells z.cells (grownCap w 1 0 e - 1)) (by simpa using hge) (by simp) (by rw [Value.oneSize _ hzk]; simp) (fun q y j c hq hj => by simp at hq) (fun y hy => by cases hy) (fun y hy => by cases hy) ?_
  rw [hvb, hvx]
  have := run_append_nil (P := P) w t ty e i z hu hi hz ad2 1 c2 (B3 i.size 1 f2) (Ah _ _ _) (F2.vals hk) (by omega) (by omega) (by simp at hl; omega)
  simpa using this
 obtain ⟨hspot, L, hL, ho⟩ := hown rfl
 injection hL with hL
 subst hL
 by_cases hroom : xs.length + 1 ≤ c
 ·-- there is room
  let off := ad.off + xs.length * i.size
  have hTn : ad.off + (xs.length + 1) * i.size = off + i.size := by simp only [off, Nat.add_mul]; omega
  have hTc : ad.off + (xs.length + 1) * i.size ≤ ad.off + c * i.size := Nat.add_le_add_left (Nat.mul_le_mul_right _ hroom) _
  have htl : ∀ j, j < i.size → G.tag ad.block (off + j) = .tail (.slot d r) := fun j hj => ho (off + j) (by simp only [off]; omega) (by omega)
  have hex0 : ∀ j, j < i.size → (w.cell? ⟨ad.block, off + j, none⟩).isSome = true := fun j hj => by
   obtain ⟨u, hu⟩ := h.tags.ex ad.block (off + j) (by rw [htl j hj]; simp)
   rw [hu]; rfl
  obtain ⟨w1, hw1⟩ : ∃ w1, w1 = w.setCells ad.block off zs := ⟨_, rfl⟩
  have hrun : (Builtin.append_ #[t, t] ty #[a.tmps.getD r undef, a.eval x]).run P w = .ok (.slice (some ad) (xs.length + 1) c) w1 := by
   have hst := run_storeCells_cells (P := P) ad.block off zs 0 w (by simpa [hzl] using hex0) (by simpa [hzl] using fun j hj => h.tags.tail _ _ _ (htl j hj)) (F2.ones hk)
   have hfc := run_firstCells_some (P := P) w i.size 1 ad2 1 c2 zs (by rw [hzl]; omega) (F2.vals hk)
   have hadd : ad.add (xs.length * i.size) = ⟨ad.block, off, none⟩ := Ao hspot _
   rw [hvb, hvx, hw1]
   simp only [Nat.add_zero] at hst
   simp [Builtin.append_, run_underlying hu, sizeOf, typeInfo, hi, Builtin.lenOf, hroom, hfc, hadd, hst]
  obtain ⟨W, hW⟩ : ∃ W, W = w1.setCells ad.block off news := ⟨_, rfl⟩
  let tag' : Nat → Nat → Tag := fun b o => if b = ad.block ∧ off ≤ o ∧ o < off + i.size then .fix else if b = ad.block ∧ off + i.size ≤ o ∧ o < ad.off + c * i.size then .tail (.slot d s) else G.tag b o
  have hex1 : ∀ j, j < i.size → (w1.cell? ⟨ad.block, off + j, none⟩).isSome = true := fun j hj => by
   rw [hw1, World.cell?_setCells_in ad.block zs off w (by simpa [hzl] using hex0) j (by rw [hzl]; exact hj)]; rfl
  have hcellout : ∀ b o, ¬ (b = ad.block ∧ off ≤ o ∧ o < off + i.size) → W.cell? ⟨b, o, none⟩ = w.cell? ⟨b, o, none⟩ := fun b o hn => by
   have key : ∀ hb : b = ad.block, o < off ∨ off + i.size ≤ o := fun hb => by
    rcases Nat.lt_or_ge o off with h' | h'
    ·exact .inl h'
    exact .inr (Nat.le_of_not_lt fun h'' => hn ⟨hb, h', h''⟩)
   rw [hW, World.cell?_setCells_out _ _ _ _ _ (fun hb _ => by have := key hb; rw [hnl]; exact this), hw1, World.cell?_setCells_out _ _ _ _ _ (fun hb _ => by have := key hb; rw [hzl]; exact this)]
  have hcellin : ∀ j (hj : j < news.length), W.cell? ⟨ad.block, off + j, none⟩ = some news[j] := fun j hj => by rw [hW]; exact World.cell?_setCells_in ad.block news off w1 (fun j hj => hex1 j (by omega)) j hj
  have hin : ∀ b o, (b = ad.block ∧ off ≤ o ∧ o < ad.off + c * i.size) → G.tag b o = .tail (.slot d r) := fun b o hc => by
   obtain ⟨rfl, h1, h2⟩ := hc
   exact ho o h1 h2
  have hnotin : ∀ b o, G.tag b o ≠ .tail (.slot d r) → ¬ (b = ad.block ∧ off ≤ o ∧ o < off + i.size) := fun b o hne hc => hne (hin b o ⟨hc.1, hc.2.1, by omega⟩)
  have hfzW : ∀ x, W.frozen? x = w.frozen? x := fun x => by rw [hW, World.frozen?_setCells, hw1, World.frozen?_setCells]
  have hheap : ∀ b, b ≠ ad.block → W.heap[b]? = w.heap[b]? := fun b hb => by rw [hW, Bq _ _ _ _ _ hb, hw1, Bq _ _ _ _ _ hb]
  have hsizeW : W.heap.size = w.heap.size := by rw [hW, Bp, hw1, Bp]
  obtain ⟨h1, h2⟩ := h.rows (w' := W) hrs tag' (fun b o => by
    simp only [tag']
    split
    ·rename_i hc; exact .inr ⟨.inr (hin b o ⟨hc.1, hc.2.1, by omega⟩), .inl rfl⟩
    split
    ·rename_i hc; exact .inr ⟨.inr (hin b o ⟨hc.1, by omega, hc.2.2⟩), .inr rfl⟩
    exact .inl rfl)
   (fun b o _ hne => hcellout b o (hnotin b o hne))
   (fun b o hb => by
    by_cases hc : b = ad.block ∧ off ≤ o ∧ o < off + i.size
    ·obtain ⟨rfl, h1, h2⟩ := hc
     have := hcellin (o - off) (by omega)
     rw [show off + (o - off) = o by omega] at this
     exact ⟨_, this⟩
    rw [hcellout b o hc]
    simp only [tag', if_neg hc] at hb
    refine h.tags.ex b o ?_
    split at hb
    ·rename_i hc2; rw [hin b o ⟨hc2.1, by omega, hc2.2.2⟩]; simp
    exact hb)
   (fun b o L hb => by
    rw [hfzW]
    simp only [tag'] at hb
    split at hb
    ·cases hb
    split at hb
    ·rename_i hc2; exact h.tags.tail b o _ (hin b o ⟨hc2.1, by omega, hc2.2.2⟩)
    exact h.tags.tail b o L hb)
   (fun b o q hb => by
    rw [hfzW]
    simp only [tag'] at hb
    split at hb
    ·cases hb
    split at hb
    ·cases hb
    exact h.tags.obj b o q hb)
   (fun b _ ht => hheap b (fun e => ht _ _ (e ▸ htl 0 hk))) (by rw [hW, Dj, hw1, Dj]) (by rw [hW, Cp, hw1, Cp]) (by rw [hW, C7, hw1, C7]) (Nat.le_of_eq hsizeW.symm)
   (Still.tags (fun b hb => hheap b (fun e => F8 (htl 0 hk) (e ▸ hb))) (Nat.le_of_eq hsizeW.symm) (fun b o _ => by
    show tag' b o = _ ∨ _
    simp only [tag']
    split
    ·rename_i hc; exact .inr ⟨_, hin b o ⟨hc.1, hc.2.1, by omega⟩⟩
    split
    ·rename_i hc; exact .inr ⟨_, hin b o ⟨hc.1, by omega, hc.2.2⟩⟩
    exact .inl rfl) (fun i hi => .inl ⟨hi, rfl⟩)) hs
   (v := .slice (some ad) (xs.length + 1) c) (y := .slice true i.size (xs ++ [yv])) (by
    have hfx : ∀ b o, G.tag b o = .fix → tag' b o = .fix ∧ W.cell? ⟨b, o, none⟩ = w.cell? ⟨b, o, none⟩ := fun b o hb => by
     have hn := hnotin b o (by rw [hb]; simp)
     refine ⟨?_, hcellout b o hn⟩
     simp only [tag', if_neg hn]
     rw [if_neg]
     ·exact hb
     intro hc2
     have := hin b o ⟨hc2.1, by omega, hc2.2.2⟩
     rw [hb] at this; cases this
    refine .slice _ true i.size _ ad _ c (fun q j => if q < xs.length then f q j else fy j) hspot (by simp) hroom (fun y hy => ?_) (fun y hy => ?_) (fun q y j c' hq hj => ?_) (fun q y j c' hq hj => ?_) (fun _ => ⟨_, rfl, fun o h1 h2 => ?_⟩)
    ·rcases List.mem_append.1 hy with hy | hy
     ·exact F.k y hy
     rw [List.mem_singleton.1 hy]; exact hyk
    ·rcases List.mem_append.1 hy with hy | hy
     ·exact F.one y hy
     rw [List.mem_singleton.1 hy]; exact hy1
    ·rcases hget q y hq with ⟨hlt, hq'⟩ | ⟨rfl, rfl⟩
     ·simp only [if_pos hlt]
      obtain ⟨a1, a2⟩ := F.cell q y j c' hq' hj
      obtain ⟨b1, b2⟩ := hfx _ _ a1
      exact ⟨b1, b2.trans a2⟩
     simp only [Nat.lt_irrefl, if_false]
     have hjl : j < i.size := by
      have := (List.getElem?_eq_some_iff.1 hj).1
      omega
     refine ⟨?_, ?_⟩
     ·show tag' _ _ = _
      simp only [tag']
      rw [if_pos ⟨trivial, by simp only [off]; omega, by simp only [off]; omega⟩]
     have := (hnat' j c' hj).1
     have hjn : j < news.length := by omega
     rw [List.getElem?_eq_getElem hjn] at this
     rw [show ad.off + xs.length * i.size + j = off + j from rfl, hcellin j hjn]
     exact this
    ·rcases hget q y hq with ⟨hlt, hq'⟩ | ⟨rfl, rfl⟩
     ·simp only [if_pos hlt]
      exact repFix tag' _ hfx (F.rep q y j c' hq' hj)
     simp only [Nat.lt_irrefl, if_false]
     exact repFix tag' _ hfx (hnat' j c' hj).2
    have h1 : ad.off + (xs.length + 1) * i.size ≤ o := by simpa using h1
    show tag' _ _ = _
    simp only [tag']
    rw [if_neg (by omega), if_pos ⟨trivial, by omega, h2⟩])
  refine ⟨w1, ad, c, { G with tag := tag' }, hrun, hspot, fun j hj => ⟨hex1 j hj, ?_⟩, ?_, ?_⟩
  ·rw [hw1, World.frozen?_setCells]
   exact h.tags.tail _ _ _ (htl j hj)
  ·rw [← hW]; exact h1
  rw [← hW]; exact h2
 have hge := E4 w (xs.length + 1) c e
 refine grown (B3 i.size xs.length f) (grownCap w (xs.length + 1) c e) f (Builtin.zeroCells z.cells (grownCap w (xs.length + 1) c e - (xs.length + 1))) hge (Ah _ _ _) (by rw [Value.oneSize _ hzk]) (fun q y j c' hq hj => ?_) F.k F.one ?_
 ·have hjl : j < i.size := by
   have := (List.getElem?_eq_some_iff.1 hj).1
   rw [F.k y (List.mem_of_getElem? hq)] at this; exact this
  exact ⟨F0 (List.getElem?_eq_some_iff.1 hq).1 hjl, F.rep q y j c' hq hj⟩
 rw [hvb, hvx]
 exact run_append_grow (P := P) w t ty e i z hu hi hz ad xs.length c (B3 i.size xs.length f) (Ah _ _ _) (F.vals hk) ad2 1 c2 (B3 i.size 1 f2) (Ah _ _ _) (F2.vals hk) (by omega) (by omega) (growslice_fits (by omega) hl)
theorem eval_put {a : Act} {s t : Nat} {v : Value} (h : t ≠ s) : (a.put (some s) v).eval (.tmp t) = a.eval (.tmp t) := by
 show ((a.tmps.setIfInBounds s v).getD t undef) = a.tmps.getD t undef
 rw [Array.getD_eq_getD_getElem?, Array.getD_eq_getD_getElem?, Array.getElem?_setIfInBounds_ne (fun e => h e.symm)]
theorem Bd {a : Act} {s : Nat} {v : Value} (h : s < a.tmps.size) : (a.put (some s) v).eval (.tmp s) = v := by
 show ((a.tmps.setIfInBounds s v).getD s undef) = v
 rw [Cw _ _ _ _ h, if_pos rfl]
end
end Go.SX
namespace Go.SX
variable [GI : GlobInv]
open Classical
section
variable {P : Program} {d : Nat} {ops : Array Oper} {rest : List Oper} {sz s : Nat} {fr : Nat → AV} {up own up' own' : List AObj} {dfs : List Nat} {rnd : Option Nat} {Q : St → Prop} {ty : TypeId} {pos : String} {aft : Array Edge}
/-- A call of a function value that leaves up' of whoever waits, and own' of this activation. -/
theorem R.callVX {f : Operand} {g : FuncId} {xs : List Operand} {ats : Array TypeId} {first caps args : List AV} {r : AV} (hcall : ∀ args w, (callFunc g args).run P w = .ok (.enter g args) w)
  (h : ACall P g args (up ++ own) (fun y H' => y = r ∧ H' = up' ++ own')) (hl : up'.length = up.length) (hlow : (∀ x ∈ up, ObjLow up.length x) → ∀ x ∈ up', ObjLow up.length x)
  (hr : ARun P d ops rest ⟨sz, A5 s r fr, up', own', dfs, rnd⟩ Q) (hd : ∀ o ∈ dfs, (up ++ own)[o]? = some .defs → (up' ++ own')[o]? = some .defs := by simp)
  (hf : A8 fr f = .fn (.func g) first caps := by exact sL0) (ha : first ++ xs.map (A8 fr) ++ caps = args := by exact sL0) (hs : Nat.blt s sz = true := by rfl) :
  ARun P d ops (⟨some s, .call ⟨.value f, xs.toArray, ats⟩, ty, pos, aft, none⟩ :: rest) ⟨sz, fr, up, own, dfs, rnd⟩ Q := by
 refine ARun.op rfl (AOp.callG (st := ⟨sz, fr, up, own, dfs, rnd⟩) (Q := (· = ⟨sz, A5 s r fr, up', own', dfs, rnd⟩)) (first := first) (caps := caps) hcall hf (by rw [← ha] <;> rfl) h (by simpa using hs) (fun y H' _ hy => ?_)) (fun s' e => by subst e; exact hr)
 obtain ⟨rfl, rfl⟩ := hy
 exact ⟨up', own', rfl, hl, fun h => by rw [hl] at h ⊢; exact hlow h, fun hdd o ho => hd o ho (hdd o ho), rfl⟩
/-- The same of a function. -/
theorem R.callX {g : FuncId} {xs : List Operand} {ats : Array TypeId} {args : List AV} {r : AV} (hcall : ∀ args w, (callFunc g args).run P w = .ok (.enter g args) w)
  (h : ACall P g args (up ++ own) (fun y H' => y = r ∧ H' = up' ++ own')) (hl : up'.length = up.length) (hlow : (∀ x ∈ up, ObjLow up.length x) → ∀ x ∈ up', ObjLow up.length x)
  (hr : ARun P d ops rest ⟨sz, A5 s r fr, up', own', dfs, rnd⟩ Q) (hd : ∀ o ∈ dfs, (up ++ own)[o]? = some .defs → (up' ++ own')[o]? = some .defs := by simp)
  (ha : xs.map (A8 fr) = args := by exact sL0) (hs : Nat.blt s sz = true := by rfl) :
  ARun P d ops (⟨some s, .call ⟨.value (.func g), xs.toArray, ats⟩, ty, pos, aft, none⟩ :: rest) ⟨sz, fr, up, own, dfs, rnd⟩ Q :=
 R.callVX (f := .func g) (first := []) (caps := []) hcall h hl hlow hr hd rfl (by rw [← ha]; simp) hs
end
section
variable {P : Program} {d : Nat} {sz : Nat} {dfs : List Nat} {rnd : Option Nat} {l0 : List Oper} {up own : (Nat → Bool) → List AObj} {KP : List PanicEntry → St → Prop} {E : List Oper → (Nat → AV) → Prop} {S : List SegY} {l : List Oper} {fr : Nat → AV} {ty : TypeId} {pos : String} {aft : Array Edge} {s : Nat} {T F : List Nat}
/-- The p-th of those that turn the heap: a store into an own object. -/
theorem Y.storeOwn {t t' : TypeId} {p x : Operand} {n off k u pn : Nat} {y : AV} {ys cs cs' : List AV} (hsz : ∀ w, (Go.sizeOf t).run P w = .ok k w)
  (hU : ∀ B : Nat → Bool, B pn = false → (up B).length = u ∧ (own B)[n]? = some (.cells t' cs) ∧ own (upd B pn) = (own B).set n (.cells t' cs') ∧ up (upd B pn) = up B)
  (h : ChainY P d l0 sz up own dfs rnd KP E S l fr)
  (hp : A8 fr p = .ptr (oid u n) off := by exact sL0) (hx : A8 fr x = y := by exact sL0) (hc : y.cells = ys := by exact sL0) (hk : ys.length = k := by rfl)
  (h1 : ys.all AV.one = true := by exact sL4) (hfit : off + k ≤ cs.length := by exact sL3) (hput : Ax cs off ys = cs' := by exact sL0) :
  ChainY P d l0 sz up own dfs rnd KP E (.s [] (some pn) T F :: S) (⟨none, .store t p x, ty, pos, aft, none⟩ :: l) fr := by
 subst hput
 subst hc
 refine ⟨_, l, [], rfl, ⟨rfl, rfl, fun B f _ _ hB hf => .of ?_⟩, h⟩
 obtain ⟨a0, a1, a2, a3⟩ := hU B (hB pn rfl)
 have e : A8 f p = .ptr (oid u n) off := by rw [agr hf (by simp [Op.operands])]; exact hp
 have ex : A8 f x = y := by rw [agr hf (by simp [Op.operands])]; exact hx
 refine AOp.eqTo (AOp.storeOwn (st := ⟨sz, f, up B, own B, dfs, rnd⟩) hsz (by show A8 f p = _; rw [e, ← a0]; rfl) a1 ex hk h1 hfit) ?_
 show _ = St.mk sz f (up (upd B pn)) (own (upd B pn)) dfs rnd
 rw [a2, a3]
theorem Y.buildSlice {t e : TypeId} {k len : Nat} {z : Value} {parts : List (Nat × Operand)} {ys : List AV} (hu : P.underlying t = some (.slice e)) (hsz : ∀ w, (Go.sizeOf e).run P w = .ok k w) (hz : ∀ w, (zeroValue e).run P w = .ok z w)
  (h : ChainY P d l0 sz up own dfs rnd KP E S l (A5 s (.slice true k ys) fr)) (hp : parts.toArray = (((parts.map Prod.snd).zipIdx).map fun x => (x.2, x.1)).toArray := by rfl) (hev : (parts.map Prod.snd).map (A8 fr) = ys := by exact sL0)
  (hk : ys.all (fun y => decide (y.cells.length = k) && y.cells.all AV.one) = true := by simp [go_sem]) (hl : len = ys.length := by rfl) (hlen : ys.length * k ≤ 16777216 := by exact sL3) (hs : Nat.blt s sz = true := by rfl) :
  ChainY P d l0 sz up own dfs rnd KP E (.s [s] none T F :: S) (⟨some s, .buildSlice t len parts.toArray, ty, pos, aft, none⟩ :: l) fr := by
 have h2 : ∀ y ∈ ys, y.cells.length = k ∧ y.cells.all AV.one = true := fun y hy => by simpa using List.all_eq_true.1 hk y hy
 refine ⟨_, l, [(s, .slice true k ys)], rfl, ⟨rfl, rfl, fun B f _ _ _ hf => .of ?_⟩, h⟩
 have hev' : (parts.map Prod.snd).map (A8 f) = ys := by
  rw [← hev]
  refine List.map_congr_left fun x hx => ?_
  refine agr hf ?_
  simp only [Op.operands, List.toList_toArray, Array.toList_map, List.mem_map] at hx ⊢
  exact hx
 exact AOp.eqTo (AOp.buildSlice (st := ⟨sz, f, up B, own B, dfs, rnd⟩) hu hsz hz hev' (fun y hy => (h2 y hy).1) (fun y hy c hc => List.all_eq_true.1 (h2 y hy).2 c hc) hlen (by simpa using hs) hl hp) rfl
/-- The p-th of those that turn the heap: it takes what a cell of an own object owns. -/
theorem Y.loadOwnT {t t' : TypeId} {p : Operand} {n off u pn : Nat} {y z : AV} {cs cs' : List AV} (hagg : ∀ w, (isAgg t).run P w = .ok false w)
  (hU : ∀ B : Nat → Bool, B pn = false → (up B).length = u ∧ (own B)[n]? = some (.cells t' cs) ∧ own (upd B pn) = (own B).set n (.cells t' cs') ∧ up (upd B pn) = up B)
  (h : ChainY P d l0 sz up own dfs rnd KP E S l (A5 s y fr))
  (hp : A8 fr p = .ptr (oid u n) off := by exact sL0) (hy : cs[off]? = some y := by rfl) (hz : y.strip = z := by exact sL0) (hcs : cs.set off z = cs' := by exact sL0) (hs : Nat.blt s sz = true := by rfl) :
  ChainY P d l0 sz up own dfs rnd KP E (.s [s] (some pn) T F :: S) (⟨some s, .load t p, ty, pos, aft, none⟩ :: l) fr := by
 subst hz
 subst hcs
 refine ⟨_, l, [(s, y)], rfl, ⟨rfl, rfl, fun B f _ _ hB hf => .of ?_⟩, h⟩
 obtain ⟨a0, a1, a2, a3⟩ := hU B (hB pn rfl)
 have e : A8 f p = .ptr (oid u n) off := by rw [agr hf (by simp [Op.operands])]; exact hp
 refine AOp.eqTo (AOp.loadOwnT (st := ⟨sz, f, up B, own B, dfs, rnd⟩) hagg (by show A8 f p = _; rw [e, ← a0]; rfl) a1 hy (by simpa using hs)) ?_
 show _ = St.mk sz (E5 [(s, y)] f) (up (upd B pn)) (own (upd B pn)) dfs rnd
 rw [a2, a3]
 rfl
end
end Go.SX
namespace Go.SX
variable [GI : GlobInv]
open Classical
variable {P : Program} {d : Nat} {l0 : List Oper} {kd : Nat} {ops : Array Oper} {rest : List Oper} {sz : Nat} {fr fr' : Nat → AV} {up own own' up' : List AObj} {dfs : List Nat} {rnd : Option Nat} {Q : St → Prop} {E : List Oper → (Nat → AV) → Prop} {s : Nat} {ty : TypeId} {pos : String} {aft : Array Edge}
/-- A slice that nobody appends to. -/
theorem R.buildSl {t e : TypeId} {k len : Nat} {z : Value} {parts : List (Nat × Operand)} {ys : List AV} (hu : P.underlying t = some (.slice e)) (hsz : ∀ w, (Go.sizeOf e).run P w = .ok k w) (hz : ∀ w, (zeroValue e).run P w = .ok z w)
  (hr : ARun P d ops rest ⟨sz, A5 s (.slice false k ys) fr, up, own, dfs, rnd⟩ Q) (hp : parts.toArray = (((parts.map Prod.snd).zipIdx).map fun x => (x.2, x.1)).toArray := by rfl) (hev : (parts.map Prod.snd).map (A8 fr) = ys := by exact sL0)
  (hk : ys.all (fun y => decide (y.cells.length = k) && y.cells.all AV.one) = true := by simp [go_sem]) (hl : len = ys.length := by rfl) (hlen : ys.length * k ≤ 16777216 := by exact sL3) (hs : Nat.blt s sz = true := by rfl) :
  ARun P d ops (⟨some s, .buildSlice t len parts.toArray, ty, pos, aft, none⟩ :: rest) ⟨sz, fr, up, own, dfs, rnd⟩ Q := by
 have h2 : ∀ y ∈ ys, y.cells.length = k ∧ y.cells.all AV.one = true := fun y hy => by simpa using List.all_eq_true.1 hk y hy
 exact ARun.vv rfl rfl hs (OpV.buildSlice (st := ⟨sz, fr, up, own, dfs, rnd⟩) hu hsz hz hev (fun y hy => (h2 y hy).1) (fun y hy c hc => List.all_eq_true.1 (h2 y hy).2 c hc) hlen hl hp) hr
section
variable {P : Program} {d : Nat} {sz : Nat} {dfs : List Nat} {rnd : Option Nat} {l0 : List Oper} {up own : (Nat → Bool) → List AObj} {KP : List PanicEntry → St → Prop} {E : List Oper → (Nat → AV) → Prop} {S : List SegY} {l : List Oper} {fr : Nat → AV} {ty : TypeId} {pos : String} {aft : Array Edge} {s : Nat} {T F : List Nat}
end
end Go.SX
namespace Go.SX
variable [GI : GlobInv]
open Classical
section
variable {P : Program} {d : Nat}
variable {sz : Nat} {dfs : List Nat} {rnd : Option Nat}
theorem Ft {F : Fence} {ops : Array Oper} {Q Q' : Exit → Act → World → Prop} (h : ∀ e a w, Q e a w → Q' e a w) : ∀ (fuel : Nat) (listed : Array Bool) (a : Act) (w : World), wpAnyIn F 0 P .any ops Q fuel listed a w → wpAnyIn F 0 P .any ops Q' fuel listed a w
 | 0, listed, a, w, hh => ⟨hh.1, h _ _ _ hh.2⟩
 | fuel + 1, listed, a, w, hh => by
  refine ⟨fun h0 => h _ _ _ (hh.1 h0), fun i hi => ?_⟩
  have := hh.2 i hi
  unfold wpOpIn at this ⊢
  cases ho : ops[i]? with
  | none => simp only [ho] at this ⊢; exact Ft h fuel _ _ _ this
  | some o =>
   simp only [ho] at this ⊢
   split
   ·rename_i hw
    simp only [hw, if_true] at this
    exact Ix (fun a w => Ft h fuel _ a w) h this
   rename_i hw
   simp only [hw] at this
   exact ⟨this.1, Ft h fuel _ _ _ this.2⟩
/-- The last operations of a region, in any order that its text allows; the first k have run. -/
def ATail (P : Program) (d : Nat) (l : List Oper) (k : Nat) (st : St) (Q : St → Prop) : Prop :=
 ∀ (G : Gh) (a : Act) (w : World), StRel d G st a w → ∀ listed : Array Bool, listed.size = l.length → (∀ j, j < l.length → listed.getD j false = decide (j < k)) →
  wpAnyIn (Fr (st.rnd.map G.blk)) 0 P .any l.toArray (fun e a' w' => e = .normal ∧ Post d st G w Q a' w') (l.length - k) listed a w
/-- What is asked of the region's text. -/
def okT (l : List Oper) (tn : List Nat) (I : List Inf) (M : List Nat) : Bool :=
 Nat.ble I.length l.length && (tn.zipIdx.all fun x => Nat.blt x.1 I.length && tn.zipIdx.all fun y => Nat.beq x.2 y.2 || !Nat.beq x.1 y.1) &&
 l.zipIdx.all fun x =>
  Nat.beq (M.getD x.2 0) (M0 M x.1.after.toList) && (x.1.after.toList.all fun e => !Region.binds .any e || Nat.blt e.on x.2) &&
  match I[x.2]? with
  | some inf =>
   ((slY x.1 inf).all fun s => (l.zip I).zipIdx.all fun z => Nat.beq z.2 x.2 || !((slY z.1.1 z.1.2).elem s) || (!(inf.W.isNone && z.1.2.W.isNone) && (((M.getD x.2 0).testBit z.2 && Nat.blt z.2 x.2) || ((M.getD z.2 0).testBit x.2 && Nat.blt x.2 z.2)))) &&
   ((lk l x.1).all fun s => (l.zip I).zipIdx.all fun z => !((slY z.1.1 z.1.2).elem s) || Nat.beq z.2 x.2 || ((M.getD x.2 0).testBit z.2 && Nat.blt z.2 x.2) || ((M.getD z.2 0).testBit x.2 && Nat.blt x.2 z.2)) &&
   (inf.T.all fun p => match tn[p]? with | some e => (M.getD x.2 0).testBit e | none => false) && (inf.F.all fun p => match tn[p]? with | some e => (M.getD e 0).testBit x.2 | none => false) &&
   (match inf.t with | some p => (match tn[p]? with | some e => Nat.beq e x.2 | none => false) | none => !tn.elem x.2)
  | none => (List.range I.length).all fun j => (M.getD x.2 0).testBit j

structure OkT (l : List Oper) (tn : List Nat) (I : List Inf) (M : List Nat) : Prop extends EdgeOK l l.length M where
 len : I.length ≤ l.length
 uniq : ∀ (i j : Nat) (o z : Oper) (x y : Inf) (s : Nat), l[i]? = some o → l[j]? = some z → I[i]? = some x → I[j]? = some y → s ∈ slY o x → s ∈ slY z y → j = i ∨ (¬ (x.W = none ∧ y.W = none) ∧ (((M.getD i 0).testBit j = true ∧ j < i) ∨ ((M.getD j 0).testBit i = true ∧ i < j)))
 look : ∀ (i j : Nat) (o z : Oper) (x y : Inf) (s : Nat), l[i]? = some o → l[j]? = some z → I[i]? = some x → I[j]? = some y → s ∈ lk l o → s ∈ slY z y → j = i ∨ ((M.getD i 0).testBit j = true ∧ j < i) ∨ ((M.getD j 0).testBit i = true ∧ i < j)
 T : ∀ (i : Nat) (x : Inf) (p : Nat), I[i]? = some x → p ∈ x.T → ∃ e, tn[p]? = some e ∧ (M.getD i 0).testBit e = true
 F : ∀ (i : Nat) (x : Inf) (p : Nat), I[i]? = some x → p ∈ x.F → ∃ e, tn[p]? = some e ∧ (M.getD e 0).testBit i = true
 t1 : ∀ (i : Nat) (x : Inf) (p : Nat), I[i]? = some x → x.t = some p → tn[p]? = some i
 t0 : ∀ (i : Nat) (x : Inf), I[i]? = some x → x.t = none → i ∉ tn
 tl : ∀ (p e : Nat), tn[p]? = some e → e < I.length
 tu : ∀ (p q e : Nat), tn[p]? = some e → tn[q]? = some e → p = q
 tailk : ∀ (i j : Nat) (o : Oper), l[i]? = some o → I.length ≤ i → j < I.length → (M.getD i 0).testBit j = true

theorem Rd {l : List Oper} {tn : List Nat} {I : List Inf} {M : List Nat} (h : okT l tn I M = true) : OkT l tn I M := by
 have hx : ∀ (i : Nat) (o : Oper), l[i]? = some o → (o, i) ∈ l.zipIdx := fun i o ho => by
  rw [List.mem_zipIdx_iff_getElem?]; exact ho
 have hz : ∀ (j : Nat) (z : Oper) (y : Inf), l[j]? = some z → I[j]? = some y → ((z, y), j) ∈ (l.zip I).zipIdx := fun j z y h1 h2 => by
  rw [List.mem_zipIdx_iff_getElem?, List.getElem?_zip_eq_some]; exact ⟨h1, h2⟩
 unfold okT at h
 rw [Bool.and_eq_true, Bool.and_eq_true] at h
 have hlen : I.length ≤ l.length := Nat.le_of_ble_eq_true h.1.1
 have htn := List.all_eq_true.1 h.1.2
 have h := List.all_eq_true.1 h.2
 have htl : ∀ (p e : Nat), tn[p]? = some e → (e, p) ∈ tn.zipIdx := fun p e he => by rw [List.mem_zipIdx_iff_getElem?]; exact he
 have hl : ∀ (i : Nat) (x : Inf), I[i]? = some x → ∃ o, l[i]? = some o := fun i x hi => by
  have := (List.getElem?_eq_some_iff.1 hi).1
  exact ⟨l[i]'(by omega), List.getElem?_eq_getElem _⟩
 refine ⟨⟨fun i o ho m hm => ?_, fun i o ho e he hb => ?_, fun i j o ho hi hj => absurd (List.getElem?_eq_some_iff.1 ho).1 (by omega)⟩, hlen, fun i j o z x y s ho hz' hix hjy hs hs' => ?_, fun i j o z x y s ho hz' hix hjy hs hs' => ?_, fun i x p hi hp => ?_, fun i x p hi hp => ?_, fun i x p hi hp => ?_, fun i x hi hp => ?_, fun p e he => ?_, fun p q e hp hq => ?_, fun i j o ho hi hj => ?_⟩
 ·have hio := h _ (hx i o ho); simp only [Bool.and_eq_true] at hio
  have e := Nat.eq_of_beq_eq_true hio.1.1
  rw [e] at hm
  obtain ⟨e', he', h1⟩ := Iv _ hm
  exact ⟨e', by simpa using he', h1⟩
 ·have hio := h _ (hx i o ho); simp only [Bool.and_eq_true] at hio
  have := List.all_eq_true.1 hio.1.2 e (by simpa using he)
  simpa [hb] using this
 ·have hio := h _ (hx i o ho); simp only [Bool.and_eq_true] at hio
  have h2 := hio.2
  simp only [hix, Bool.and_eq_true] at h2
  have := List.all_eq_true.1 (List.all_eq_true.1 h2.1.1.1.1 s hs) _ (hz j z y hz' hjy)
  simp only [Bool.or_eq_true, Bool.not_eq_true'] at this
  rcases this with (h | h) | h
  ·exact .inl (Nat.eq_of_beq_eq_true h)
  ·rw [List.elem_iff.2 hs'] at h; cases h
  rw [Bool.and_eq_true, Bool.or_eq_true, Bool.and_eq_true, Bool.and_eq_true] at h
  refine .inr ⟨?_, ?_⟩
  ·rintro ⟨e1, e2⟩
   rw [e1, e2] at h
   exact absurd h.1 (by simp)
  rcases h.2 with h | h
  ·exact .inl ⟨h.1, by simpa using h.2⟩
  exact .inr ⟨h.1, by simpa using h.2⟩
 ·have hio := h _ (hx i o ho); simp only [Bool.and_eq_true] at hio
  have h2 := hio.2
  simp only [hix, Bool.and_eq_true] at h2
  have := List.all_eq_true.1 (List.all_eq_true.1 h2.1.1.1.2 s hs) _ (hz j z y hz' hjy)
  simp only [List.elem_iff.2 hs', Bool.not_true, Bool.false_or, Bool.or_eq_true, Bool.and_eq_true] at this
  rcases this with (h | h) | h
  ·exact .inl (Nat.eq_of_beq_eq_true h)
  ·exact .inr (.inl ⟨h.1, by simpa using h.2⟩)
  exact .inr (.inr ⟨h.1, by simpa using h.2⟩)
 ·obtain ⟨o, ho⟩ := hl i x hi
  have hio := h _ (hx i o ho); simp only [Bool.and_eq_true] at hio
  have h2 := hio.2
  simp only [hi, Bool.and_eq_true] at h2
  have := List.all_eq_true.1 h2.1.1.2 p hp
  cases he : tn[p]? with
  | none => rw [he] at this; cases this
  | some e => rw [he] at this; exact ⟨e, rfl, this⟩
 ·obtain ⟨o, ho⟩ := hl i x hi
  have hio := h _ (hx i o ho); simp only [Bool.and_eq_true] at hio
  have h2 := hio.2
  simp only [hi, Bool.and_eq_true] at h2
  have := List.all_eq_true.1 h2.1.2 p hp
  cases he : tn[p]? with
  | none => rw [he] at this; cases this
  | some e => rw [he] at this; exact ⟨e, rfl, this⟩
 ·obtain ⟨o, ho⟩ := hl i x hi
  have hio := h _ (hx i o ho); simp only [Bool.and_eq_true] at hio
  have h2 := hio.2
  simp only [hi, Bool.and_eq_true, hp] at h2
  have := h2.2
  cases he : tn[p]? with
  | none => rw [he] at this; cases this
  | some e => rw [he] at this; rw [Nat.eq_of_beq_eq_true this]
 ·obtain ⟨o, ho⟩ := hl i x hi
  have hio := h _ (hx i o ho); simp only [Bool.and_eq_true] at hio
  have h2 := hio.2
  simp only [hi, Bool.and_eq_true, hp, Bool.not_eq_true'] at h2
  intro hm
  have := h2.2
  rw [List.elem_iff.2 hm] at this
  cases this
 ·have := htn _ (htl p e he)
  rw [Bool.and_eq_true] at this
  simpa using this.1
 ·have := htn _ (htl p e hp)
  rw [Bool.and_eq_true] at this
  have := List.all_eq_true.1 this.2 _ (htl q e hq)
  simpa using this
 have hio := h _ (hx i o ho); simp only [Bool.and_eq_true] at hio
 have h2 := hio.2
 rw [List.getElem?_eq_none hi] at h2
 exact List.all_eq_true.1 h2 j (by simpa using hj)

/-- **A region whose order is drawn, with several operations that turn the heap or write more slots than one.** -/
theorem AW.drawT {id : Nat} {l : List Oper} {tn : List Nat} {I : List Inf} {D : List (List (Nat × AV))} {up own : (Nat → Bool) → List AObj} {fr : Nat → AV} {K : Exit → St → Prop} (M : List Nat) (hm : P.follows .mixedOrders = true) (hok : okT l tn I M = true)
  (hD : D.length = I.length) (hlen : ∀ B, (up B).length = (up fun _ => false).length)
  (hops : ∀ (i : Nat) (o : Oper) (x : Inf), l[i]? = some o → I[i]? = some x → ∃ ws, D[i]? = some ws ∧ OpY P d l sz up own dfs rnd (fun ch => K (.panic ch)) x o (frY (fun _ => true) 0 (D.take i) fr) ws)
  (hrest : ATail P d l I.length ⟨sz, frY (fun _ => true) 0 D fr, up (fun p => decide (p < tn.length)), own (fun p => decide (p < tn.length)), dfs, rnd⟩ (K .normal)) :
  AW P d (.region id l.toArray true) ⟨sz, fr, up fun _ => false, own fun _ => false, dfs, rnd⟩ K := by
 have ok := Rd hok
 obtain ⟨k, hk⟩ : ∃ k, k = I.length := ⟨_, rfl⟩
 have hkl : k ≤ l.length := by have := ok.len; omega
 have ed : EdgeOK l l.length M := ok.toEdgeOK
 have etl : ∀ (i j : Nat) (o : Oper), l[i]? = some o → k ≤ i → j < k → (M.getD i 0).testBit j = true := by rw [hk]; exact ok.tailk
 rw [← hk] at hD hrest
 have gI : ∀ i, i < k → ∃ x, I[i]? = some x := fun i hi => ⟨I[i]'(by omega), List.getElem?_eq_getElem _⟩
 intro G0 a0 w0 hr0
 refine wpIn_region_any hm ?_
 generalize hF : Fr ((St.mk sz fr (up fun _ => false) (own fun _ => false) dfs rnd).rnd.map G0.blk) = F
 have hu : ∀ (i j : Nat) (t : Nat) (ws ws' : List (Nat × AV)), D[i]? = some ws → t ∈ ws.map (·.1) → D[j]? = some ws' → t ∈ ws'.map (·.1) → j = i ∨ ((M.getD i 0).testBit j = true ∧ j < i) ∨ ((M.getD j 0).testBit i = true ∧ i < j) := by
  intro i j t ws ws' h1 m1 h2 m2
  have hi : i < k := by rw [← hD]; exact (List.getElem?_eq_some_iff.1 h1).1
  have hj : j < k := by rw [← hD]; exact (List.getElem?_eq_some_iff.1 h2).1
  have e1 : l[i]? = some (l[i]'(by omega)) := List.getElem?_eq_getElem (by omega)
  have e2 : l[j]? = some (l[j]'(by omega)) := List.getElem?_eq_getElem (by omega)
  obtain ⟨x, hx⟩ := gI i hi
  obtain ⟨y, hy⟩ := gI j hj
  obtain ⟨w1, a1, a2⟩ := hops i _ x e1 hx
  obtain ⟨w2, b1, b2⟩ := hops j _ y e2 hy
  rw [h1] at a1; injection a1 with a1; subst a1
  rw [h2] at b1; injection b1 with b1; subst b1
  rw [a2.slots] at m1
  rw [b2.slots] at m2
  exact (ok.uniq i j _ _ x y t e1 e2 hx hy m1 m2).imp (fun h => h) (fun h => h.2)
 have hbe : ∀ L : Nat → Bool, (∀ j, j < k → L j = true) → bits tn L = (fun p => decide (p < tn.length)) := fun L hL => by
  funext p
  unfold bits
  cases hp : tn[p]? with
  | none =>
   have : ¬ p < tn.length := by rw [List.getElem?_eq_none_iff] at hp; omega
   show false = decide (p < tn.length)
   simp [this]
  | some e =>
   have h1 := (List.getElem?_eq_some_iff.1 hp).1
   show L e = decide (p < tn.length)
   rw [hL e (by rw [hk]; exact ok.tl p e hp)]
   simp [h1]
 have key : ∀ (fuel : Nat) (listed : Array Bool) (a : Act) (w : World) (G : Gh), listed.size = l.length → listed.toList.countP (fun b => !b) = fuel →
   (∀ j, k ≤ j → j < l.length → listed.getD j false = false) →
   (∀ (i : Nat) (o : Oper), listed.getD i false = true → l[i]? = some o → ∀ e ∈ o.after, Region.binds .any e = true → listed.getD e.on false = true) →
   StRel d G ⟨sz, frY (fun j => listed.getD j false) 0 D fr, up (bits tn fun j => listed.getD j false), own (bits tn fun j => listed.getD j false), dfs, rnd⟩ a w → Keep d G0 w0 G w →
   wpAnyIn F 0 P .any l.toArray (fun e => Post d ⟨sz, fr, up fun _ => false, own fun _ => false, dfs, rnd⟩ G0 w0 (K e)) fuel listed a w := by
  intro fuel
  induction fuel with
  | zero =>
   intro listed a w G hsz hcnt htl hcl hst hkp
   have hall : ∀ j, j < l.length → listed.getD j false = true := fun j hj => by
    have hz : listed.toList.all (fun b => b) = true := by
     rw [List.countP_eq_zero] at hcnt
     exact List.all_eq_true.2 fun b hb => by simpa using hcnt b hb
    have hj' : j < listed.size := by omega
    have := List.all_eq_true.1 hz (listed[j]) (by simp)
    simpa [hj'] using this
   have hkeq : k = l.length := by
    refine Classical.byContradiction fun hne => ?_
    have h1 := htl k (Nat.le_refl _) (by omega)
    rw [hall k (by omega)] at h1
    cases h1
   have hfe : frY (fun j => listed.getD j false) 0 D fr = frY (fun _ => true) 0 D fr := Gs D 0 fr (fun j hj => by rw [Nat.zero_add]; exact hall j (by omega))
   have hce : (bits tn fun j => listed.getD j false) = (fun p => decide (p < tn.length)) := hbe _ (fun j hj => hall j (by omega))
   rw [hfe, hce] at hst
   have hz := hrest G a w hst listed hsz (fun j hj => by rw [hall j hj]; simp; omega)
   rw [show l.length - k = 0 by omega] at hz
   rw [Bm (st' := ⟨sz, frY (fun _ => true) 0 D fr, up (fun p => decide (p < tn.length)), own (fun p => decide (p < tn.length)), dfs, rnd⟩) hr0 hkp rfl, hF] at hz
   exact Ft (fun e a' w' ⟨he, hp⟩ => by subst he; exact hp.next hkp (hlen _) rfl rfl) _ _ _ _ hz
  | succ fuel ih =>
   intro listed a w G hsz hcnt htl hcl hst hkp
   by_cases hpre : ∀ j, j < k → listed.getD j false = true
   ·-- the rest, in a row
    have hfe : frY (fun j => listed.getD j false) 0 D fr = frY (fun _ => true) 0 D fr := Gs D 0 fr (fun j hj => by rw [Nat.zero_add]; exact hpre j (by omega))
    have hce : (bits tn fun j => listed.getD j false) = (fun p => decide (p < tn.length)) := hbe _ hpre
    rw [hfe, hce] at hst
    have hle : ∀ j, j < l.length → listed.getD j false = decide (j < k) := fun j hj => by
     by_cases hjk : j < k
     ·rw [hpre j hjk]; simpa using hjk
     rw [htl j (by omega) hj]; simpa using hjk
    have hcnt' : fuel + 1 = l.length - k := by
     rw [← hcnt]
     have e1 : listed.toList = (List.range l.length).map (fun j => decide (j < k)) := by
      apply List.ext_getElem
      ·simp [hsz]
      intro j h1 h2
      have hj : j < l.length := by simpa [hsz] using h1
      have := hle j hj
      simp only [List.getElem_map, List.getElem_range, Array.getElem_toList]
      rw [← this]
      have hj' : j < listed.size := by omega
      simp [hj']
     rw [e1, List.countP_map]
     have e2 : ((fun b => !b) ∘ fun j => decide (j < k)) = fun j => decide (k ≤ j) := by
      funext j
      simp only [Function.comp_apply]
      by_cases hjk : j < k
      ·have h2 : ¬ k ≤ j := by omega
       simp [hjk, h2]
      have h2 : k ≤ j := by omega
      simp [hjk, h2]
     rw [e2]
     have : ∀ n, (List.range n).countP (fun j => decide (k ≤ j)) = n - k := by
      intro n
      induction n with
      | zero => simp
      | succ n ihn =>
       rw [List.range_succ, List.countP_append, ihn]
       by_cases hkn : k ≤ n
       ·simp [hkn]; omega
       simp [hkn]; omega
     rw [this]
    rw [hcnt']
    have hz := hrest G a w hst listed hsz hle
    rw [Bm (st' := ⟨sz, frY (fun _ => true) 0 D fr, up (fun p => decide (p < tn.length)), own (fun p => decide (p < tn.length)), dfs, rnd⟩) hr0 hkp rfl, hF] at hz
    exact Ft (fun e a' w' ⟨he, hp⟩ => by subst he; exact hp.next hkp (hlen _) rfl rfl) _ _ _ _ hz
   obtain ⟨j0, hj0k, hj0⟩ : ∃ j, j < k ∧ listed.getD j false = false := by
    refine Classical.byContradiction fun hne => hpre fun j hj => ?_
    cases hv : listed.getD j false with
    | true => rfl
    | false => exact absurd ⟨j, hj, hv⟩ hne
   refine ⟨fun h0 => ?_, fun i hi => ?_⟩
   ·-- the least that is not listed is ready
    obtain ⟨m, hm, hmin⟩ := Cv (S := fun j => j < k ∧ listed.getD j false = false) ⟨j0, hj0k, hj0⟩
    have hml : m < l.length := by omega
    have : m ∈ Region.ready .any l.toArray listed := by
     refine mem_ready.2 ⟨?_, l[m], by simp [hml], fun e he hb => ?_⟩
     ·have := hm.2; have hj' : m < listed.size := by omega
      simpa [hj'] using this
     have hlt := ed.fwd m _ (List.getElem?_eq_getElem hml) e he hb
     cases hv : listed.getD e.on false with
     | true => rfl
     | false => have := hmin e.on ⟨by omega, hv⟩; omega
    rw [h0] at this
    cases this
   obtain ⟨h1, o, ho, he⟩ := mem_ready.1 hi
   have ho' : l[i]? = some o := by simpa using ho
   have hil := (List.getElem?_eq_some_iff.1 ho').1
   have hLi : listed.getD i false = false := by
    have h3 : listed.getD i true = listed.getD i false := by simp [hsz, hil]
    rw [← h3]; exact h1
   have hbits := Cn ed (L := fun j => listed.getD j false) hcl i o ho' he
   have hik : i < k := by
    refine Classical.byContradiction fun hge => ?_
    have := hbits j0 (etl i j0 o ho' (by omega) hj0k)
    simp only [hj0] at this
    cases this
   obtain ⟨x, hx⟩ := gI i hik
   obtain ⟨ws, hDi, hO⟩ := hops i o x ho' hx
   -- what it looks at is as in the text's order
   have hnl : ∀ j, (M.getD j 0).testBit i = true → j < k → listed.getD j false = false := fun j hb hjk => by
    cases hv : listed.getD j false with
    | false => rfl
    | true =>
     have ez : l[j]? = some (l[j]'(by omega)) := List.getElem?_eq_getElem (by omega)
     have := Cn ed (L := fun j => listed.getD j false) hcl j _ ez (hcl j _ hv ez) i hb
     simp only [hLi] at this
     cases this
   have hag : ∀ t ∈ lk l o, frY (fun j => listed.getD j false) 0 D fr t = frY (fun _ => true) 0 (D.take i) fr t := by
    intro t ht
    rw [M7]
    refine M5 D 0 fr fr (fun j v hj htv => ?_) rfl
    have hjk : j < k := by rw [← hD]; exact (List.getElem?_eq_some_iff.1 hj).1
    have ez : l[j]? = some (l[j]'(by omega)) := List.getElem?_eq_getElem (by omega)
    obtain ⟨y, hy⟩ := gI j hjk
    obtain ⟨v', b1, b2⟩ := hops j _ y ez hy
    rw [hj] at b1
    injection b1 with b1
    subst b1
    rw [b2.slots] at htv
    rw [Nat.zero_add, Nat.zero_add]
    rcases ok.look i j o _ x y t ho' ez hx hy ht htv with rfl | ⟨hb, hlt⟩ | ⟨hb, hlt⟩
    ·rw [hLi]; simp
    ·rw [hbits j hb]; simpa using hlt
    rw [hnl j hb hjk]
    have : ¬ j < i := by omega
    simp [this]
   -- on which heap
   have hTT : ∀ p ∈ x.T, bits tn (fun j => listed.getD j false) p = true := fun p hp => by
    obtain ⟨e, he, hb⟩ := ok.T i x p hx hp
    unfold bits
    rw [he]
    exact hbits e hb
   have hFF : ∀ p ∈ x.F, bits tn (fun j => listed.getD j false) p = false := fun p hp => by
    obtain ⟨e, he, hb⟩ := ok.F i x p hx hp
    unfold bits
    rw [he]
    exact hnl e hb (by rw [hk]; exact ok.tl p e he)
   have htt : ∀ p, x.t = some p → bits tn (fun j => listed.getD j false) p = false := fun p hp => by
    unfold bits
    rw [ok.t1 i x p hx hp]
    exact hLi
   -- on from there
   have hgd : ∀ j, (listed.setIfInBounds i true).getD j false = if j = i then true else listed.getD j false := fun j => by
    by_cases hj : j = i
    ·subst hj; simp [hsz, hil]
    rw [getD_set_ne false (Ne.symm hj), if_neg hj]
   have hfr : frY (fun j => (listed.setIfInBounds i true).getD j false) 0 D fr = E5 ws (frY (fun j => listed.getD j false) 0 D fr) := by
    funext t
    by_cases ht : t ∈ ws.map (·.1)
    ·rw [M6 D 0 i fr hDi ht (by rw [Nat.zero_add, hgd, if_pos rfl]) (fun q v hq hm hlt => by
      rw [Nat.zero_add, hgd, if_neg (by omega)]
      have hqk : q < k := by rw [← hD]; exact (List.getElem?_eq_some_iff.1 hq).1
      rcases hu i q t ws v hDi ht hq hm with h | ⟨_, h⟩ | ⟨h, _⟩
      ·omega
      ·omega
      exact hnl q h hqk)]
     exact F4 ws _ _ (.inl ht)
    rw [Fs ws _ ht]
    refine M5 D 0 fr fr (fun j v hj htv => ?_) rfl
    rw [Nat.zero_add, hgd, if_neg (fun e => by subst e; rw [hDi] at hj; injection hj with hj; subst hj; exact ht htv)]
   have hcn : (bits tn fun j => (listed.setIfInBounds i true).getD j false) = Q3 x.t (bits tn fun j => listed.getD j false) :=
    Rc (fun q => hgd q) (fun p hp => ok.t1 i x p hx hp) (fun hp => ok.t0 i x hx hp) (fun p q e h1 h2 => ok.tu p q e h1 h2)
   have hnext : ∀ (G1 : Gh) (a1 : Act) (w1 : World), StRel d G1 ⟨sz, E5 ws (frY (fun j => listed.getD j false) 0 D fr), up (Q3 x.t (bits tn fun j => listed.getD j false)), own (Q3 x.t (bits tn fun j => listed.getD j false)), dfs, rnd⟩ a1 w1 → Keep d G w G1 w1 →
     wpAnyIn F 0 P .any l.toArray (fun e => Post d ⟨sz, fr, up fun _ => false, own fun _ => false, dfs, rnd⟩ G0 w0 (K e)) fuel (listed.setIfInBounds i true) a1 w1 := by
    intro G1 a1 w1 hr1 hk1
    refine ih _ _ w1 G1 (by simpa using hsz) ?_ (fun j hj hjl => by rw [hgd, if_neg (by omega)]; exact htl j hj hjl) (fun q oq hq hoq e hmem hb => ?_) ?_ (hkp.trans hk1)
    ·rw [Array.toList_setIfInBounds, List.countP_set (by simpa [hsz] using hil), hcnt]
     have hil' : i < listed.size := by omega
     have : listed[i] = false := by simpa [hil'] using hLi
     simp [this]
    ·rw [hgd] at hq ⊢
     split
     ·rfl
     by_cases hqi : q = i
     ·subst hqi
      rw [ho'] at hoq
      injection hoq with hoq
      subst hoq
      exact he e hmem hb
     rw [if_neg hqi] at hq
     exact hcl q oq hq hoq e hmem hb
    rw [hfr, hcn]
    exact hr1
   have hFe : Fr (rnd.map G.blk) = F := by
    rw [← hF]; exact Bm (st' := ⟨sz, frY (fun j => listed.getD j false) 0 D fr, up fun _ => false, own fun _ => false, dfs, rnd⟩) hr0 hkp rfl
   unfold wpOpIn
   rw [ho]
   simp only
   unfold OpY at hO
   cases hW : x.W with
   | some W =>
    rw [hW] at hO
    obtain ⟨_, hge, hO⟩ := hO
    have hw : Region.wanted o (yielded l.toArray a.tmps) = true := by simp [Region.wanted, hge]
    rw [if_pos hw]
    have := hO _ _ hTT hFF htt hag G a w hst
    rw [show Fr ((St.mk sz (frY (fun j => listed.getD j false) 0 D fr) (up (bits tn fun j => listed.getD j false)) (own (bits tn fun j => listed.getD j false)) dfs rnd).rnd.map G.blk) = F from hFe] at this
    refine Ix ?_ (fun e a' w' ⟨ch, he, hp⟩ => by subst he; exact (hp.mono fun _ h => h.2).next hkp (hlen _) rfl rfl) this
    rintro a1 w1 ⟨G1, st1, hr1, hk1, _, _, _, rfl⟩
    exact hnext G1 a1 w1 hr1 hk1
   | none =>
    rw [hW] at hO
    obtain ⟨hxt, s, y, rfl, hdst, hssz, hO⟩ := hO
    replace hO := hO _ hTT hFF
    rw [hxt] at hnext
    have hput : ∀ (G1 : Gh) (v : Value) (w1 : World), StRel d G1 ⟨sz, frY (fun j => listed.getD j false) 0 D fr, up (bits tn fun j => listed.getD j false), own (bits tn fun j => listed.getD j false), dfs, rnd⟩ a w1 → Keep d G w G1 w1 → Rep G1 w1 none y v →
      wpAnyIn F 0 P .any l.toArray (fun e => Post d ⟨sz, fr, up fun _ => false, own fun _ => false, dfs, rnd⟩ G0 w0 (K e)) fuel (listed.setIfInBounds i true) (a.put o.dst v) w1 := by
     intro G1 v w1 hr1 hk1 hv
     refine hnext G1 _ w1 ?_ hk1
     rw [hdst]
     exact hr1.put (st := ⟨sz, frY (fun j => listed.getD j false) 0 D fr, up (bits tn fun j => listed.getD j false), own (bits tn fun j => listed.getD j false), dfs, rnd⟩) hssz hv.lift
    unfold OpD at hO
    cases hg : o.guard with
    | none =>
     rw [hg] at hO
     have hw : Region.wanted o (yielded l.toArray a.tmps) = true := by simp [Region.wanted, hg]
     rw [if_pos hw]
     have := hO _ hag G a w hst (fun e => Post d ⟨sz, fr, up fun _ => false, own fun _ => false, dfs, rnd⟩ G0 w0 (K e))
     rw [show Fr ((St.mk sz (frY (fun j => listed.getD j false) 0 D fr) (up (bits tn fun j => listed.getD j false)) (own (bits tn fun j => listed.getD j false)) dfs rnd).rnd.map G.blk) = F from hFe] at this
     refine Oper.wpIn_mono ?_ this
     rintro a1 w1 ⟨G1, v, rfl, hr1, hk1, hv⟩
     exact hput G1 v w1 hr1 hk1 hv
    | some jw =>
     obtain ⟨j, want⟩ := jw
     rw [hg] at hO
     obtain ⟨oj, g, C, y'', hj, hdj, hgB, rfl, hO⟩ := hO
     have hgf : GIs (frY (fun j => listed.getD j false) 0 D fr g) want C := by
      rw [hag g (by unfold lk; rw [hg]; simp [hj, hdj])]
      exact hgB
     have hw : Region.wanted o (yielded l.toArray a.tmps) = C := Fl hst hg (by simpa using hj) hdj hgf
     rw [hw]
     cases hBw : C with
     | true =>
      rw [if_pos rfl]
      have := hO hBw _ hag G a w hst (fun e => Post d ⟨sz, fr, up fun _ => false, own fun _ => false, dfs, rnd⟩ G0 w0 (K e))
      rw [show Fr ((St.mk sz (frY (fun j => listed.getD j false) 0 D fr) (up (bits tn fun j => listed.getD j false)) (own (bits tn fun j => listed.getD j false)) dfs rnd).rnd.map G.blk) = F from hFe] at this
      refine Oper.wpIn_mono ?_ this
      rintro a1 w1 ⟨G1, v, rfl, hr1, hk1, hv⟩
      exact hput G1 v w1 hr1 hk1 (by rw [hBw]; exact hv)
     | false =>
      rw [if_neg (by simp)]
      refine ⟨fun _ _ => by rw [← hFe]; trivial, ?_⟩
      exact hput G undef w hst (Keep.refl _ _ _) (by rw [hBw]; exact .v _ _)
 have hrf : ∀ j, (Array.replicate l.toArray.size false).getD j false = false := fun j => by
  rw [Array.getD_eq_getD_getElem?, Array.getElem?_replicate]
  split <;> rfl
 have hz : frY (fun j => (Array.replicate l.toArray.size false).getD j false) 0 D fr = fr := by
  funext t
  exact Gr D 0 fr fun j v _ _ => hrf _
 have hz' : (bits tn fun j => (Array.replicate l.toArray.size false).getD j false) = fun _ => false := by
  funext p
  unfold bits
  cases tn[p]? with
  | none => rfl
  | some e => exact hrf e
 refine key _ _ _ _ G0 (by simp) ?_ (fun j hj hjl => hrf j) (fun i o hi => ?_) ?_ ?_
 ·simp [List.countP_replicate]
 ·rw [hrf] at hi; cases hi
 ·rw [hz, hz']
  exact hr0.drew _
 exact (Dz G0 w0 _).keep d

theorem AW.chainT {id : Nat} {l : List Oper} {tn : List Nat} {S : List SegY} {up own : (Nat → Bool) → List AObj} {up0 own0 : List AObj} {fr : Nat → AV} {K : Exit → St → Prop} (M : List Nat) (hm : P.follows .mixedOrders = true) (hok : okT l tn (Bw S) M = true)
  (h0 : up (fun _ => false) = up0) (h0' : own (fun _ => false) = own0) (hlen : ∀ B, (up B).length = up0.length)
  (h : ChainY P d l sz up own dfs rnd (fun ch => K (.panic ch)) (fun l' f => l' = l.drop (Bw S).length → ATail P d l (Bw S).length ⟨sz, f, up (fun p => decide (p < tn.length)), own (fun p => decide (p < tn.length)), dfs, rnd⟩ (K .normal)) S l fr) :
  AW P d (.region id l.toArray true) ⟨sz, fr, up0, own0, dfs, rnd⟩ K := by
 subst h0; subst h0'
 obtain ⟨D, h1, h2, h3, h4⟩ := ChainY.data S l fr (fun i j o z x y s h1 h2 h3 h4 n1 n2 h5 h6 => ((Rd hok).uniq i j o z x y s h1 h2 h3 h4 h5 h6).resolve_right (fun h => h.1 ⟨n1, n2⟩)) h
 exact AW.drawT M hm hok h1 hlen h3 (h4 (by rw [h1]))
theorem Eu {b : Array Bool} {j : Nat} (h : j < b.size) : b.getD j true = b.getD j false := by simp [h]
/-- Four operations behind the k-th: the second behind the first, the fourth behind the third. -/
theorem pz {F : Fence} {l : List Oper} {k : Nat} {Q : Exit → Act → World → Prop} (hlen : l.length = k + 5) (hfwd : ∀ (i : Nat) (o : Oper), l[i]? = some o → ∀ e ∈ o.after, Region.binds .any e = true → e.on < i)
  (h2 : ∀ o, l[k + 2]? = some o → ∃ e ∈ o.after, Region.binds .any e = true ∧ e.on = k + 1) (h4 : ∀ o, l[k + 4]? = some o → ∃ e ∈ o.after, Region.binds .any e = true ∧ e.on = k + 3)
  (A : Bool → Bool → Act) (W : Bool → Bool → World)
  (s1 : ∀ f t K, K (A true f) (W false t) → wpOpIn F 0 P l.toArray Q (k + 1) K (A false f) (W false t))
  (s2 : ∀ f t K, K (A true f) (W true t) → wpOpIn F 0 P l.toArray Q (k + 2) K (A true f) (W false t))
  (s3 : ∀ i b K, K (A i true) (W b false) → wpOpIn F 0 P l.toArray Q (k + 3) K (A i false) (W b false))
  (s4 : ∀ i b K, K (A i true) (W b true) → wpOpIn F 0 P l.toArray Q (k + 4) K (A i true) (W b false))
  (hQ : Q .normal (A true true) (W true true)) : ∀ (fuel : Nat) (listed : Array Bool) (i b f t : Bool), fuel = (bif i then 0 else 1) + (bif b then 0 else 1) + (bif f then 0 else 1) + (bif t then 0 else 1) → listed.size = l.length →
   (∀ j, j < l.length → listed.getD j false = (if j ≤ k then true else if j = k + 1 then i else if j = k + 2 then b else if j = k + 3 then f else t)) → (b = true → i = true) → (t = true → f = true) →
   wpAnyIn F 0 P .any l.toArray Q fuel listed (A i f) (W b t) := by
 intro fuel
 induction fuel with
 | zero =>
  intro listed i b f t hf hsz hL hb ht
  cases i <;> cases b <;> cases f <;> cases t <;> simp at hf
  refine ⟨List.eq_nil_iff_forall_not_mem.2 fun j hj => ?_, hQ⟩
  obtain ⟨h1, o, ho, _⟩ := mem_ready.1 hj
  have hjl : j < l.length := by
   have := (Array.getElem?_eq_some_iff.1 ho).1
   simpa using this
  rw [Eu (by omega), hL j hjl] at h1
  repeat' split at h1
  all_goals cases h1
 | succ fuel ih =>
  intro listed i b f t hf hsz hL hb ht
  have hset : ∀ q, q < l.length → ∀ j, (listed.setIfInBounds q true).getD j false = if j = q then true else listed.getD j false := fun q hq j => by
   by_cases hj : j = q
   ·subst hj; simp [hsz, hq]
   rw [getD_set_ne false (Ne.symm hj), if_neg hj]
  refine ⟨fun h0 => ?_, fun q hq => ?_⟩
  ·obtain ⟨m, hm, hmin⟩ := Cv (S := fun j => j < l.length ∧ listed.getD j false = false) (by
    have e1 : k + 1 < l.length := by omega
    have e2 : k + 2 < l.length := by omega
    have e3 : k + 3 < l.length := by omega
    have e4 : k + 4 < l.length := by omega
    have a1 : listed.getD (k + 1) false = i := by rw [hL _ e1, if_neg (by omega), if_pos rfl]
    have a2 : listed.getD (k + 2) false = b := by rw [hL _ e2, if_neg (by omega), if_neg (by omega), if_pos rfl]
    have a3 : listed.getD (k + 3) false = f := by rw [hL _ e3, if_neg (by omega), if_neg (by omega), if_neg (by omega), if_pos rfl]
    have a4 : listed.getD (k + 4) false = t := by rw [hL _ e4, if_neg (by omega), if_neg (by omega), if_neg (by omega), if_neg (by omega)]
    cases i with
    | false => exact ⟨k + 1, e1, a1⟩
    | true => cases b with
     | false => exact ⟨k + 2, e2, a2⟩
     | true => cases f with
      | false => exact ⟨k + 3, e3, a3⟩
      | true => cases t with
       | false => exact ⟨k + 4, e4, a4⟩
       | true => simp at hf)
   have : m ∈ Region.ready .any l.toArray listed := by
    refine mem_ready.2 ⟨by rw [Eu (by omega)]; exact hm.2, l[m]'hm.1, by simp [hm.1], fun e he hbd => ?_⟩
    have hlt := hfwd m _ (List.getElem?_eq_getElem hm.1) e he hbd
    cases hv : listed.getD e.on false with
    | true => rfl
    | false => have := hmin e.on ⟨by omega, hv⟩; omega
   rw [h0] at this
   cases this
  obtain ⟨h1, o, ho, he⟩ := mem_ready.1 hq
  have ho' : l[q]? = some o := by simpa using ho
  have hql := (List.getElem?_eq_some_iff.1 ho').1
  rw [Eu (by omega)] at h1
  have hq1 := hL q hql
  rw [h1] at hq1
  have hk : k < q := by
   refine Classical.byContradiction fun hn => ?_
   rw [if_pos (by omega)] at hq1
   cases hq1
  rw [if_neg (by omega)] at hq1
  have cases4 : q = k + 1 ∨ q = k + 2 ∨ q = k + 3 ∨ q = k + 4 := by omega
  rcases cases4 with rfl | rfl | rfl | rfl
  ·rw [if_pos rfl] at hq1
   subst hq1
   have hbf : b = false := by cases b with | false => rfl | true => exact absurd (hb rfl) (by simp)
   subst hbf
   refine s1 f t _ (ih _ true false f t (by simp at hf ⊢; omega) (by simpa using hsz) (fun j hj => ?_) (fun _ => rfl) ht)
   rw [hset _ hql, hL j hj]
   by_cases hj1 : j = k + 1
   ·simp [hj1]
   simp [hj1]
  ·rw [if_neg (by omega), if_pos rfl] at hq1
   subst hq1
   obtain ⟨e, h5, h6, h7⟩ := h2 o ho'
   have h8 := he e h5 h6
   rw [h7, hL _ (by omega), if_neg (by omega), if_pos rfl] at h8
   subst h8
   refine s2 f t _ (ih _ true true f t (by simp at hf ⊢; omega) (by simpa using hsz) (fun j hj => ?_) (fun _ => rfl) ht)
   rw [hset _ hql, hL j hj]
   by_cases hj1 : j = k + 2
   ·simp [hj1]
   simp [hj1]
  ·rw [if_neg (by omega), if_neg (by omega), if_pos rfl] at hq1
   subst hq1
   have htf : t = false := by cases t with | false => rfl | true => exact absurd (ht rfl) (by simp)
   subst htf
   refine s3 i b _ (ih _ i b true false (by simp at hf ⊢; omega) (by simpa using hsz) (fun j hj => ?_) hb (fun _ => rfl))
   rw [hset _ hql, hL j hj]
   by_cases hj1 : j = k + 3
   ·simp [hj1]
   simp [hj1]
  rw [if_neg (by omega), if_neg (by omega), if_neg (by omega)] at hq1
  subst hq1
  obtain ⟨e, h5, h6, h7⟩ := h4 o ho'
  have h8 := he e h5 h6
  rw [h7, hL _ (by omega), if_neg (by omega), if_neg (by omega), if_neg (by omega), if_pos rfl] at h8
  subst h8
  refine s4 i b _ (ih _ i b true true (by simp at hf ⊢; omega) (by simpa using hsz) (fun j hj => ?_) hb (fun _ => rfl))
  rw [hset _ hql, hL j hj]
  by_cases hj1 : j = k + 4
  ·simp [hj1]
  have h9 : ¬ j ≤ k ∨ j ≤ k := by omega
  by_cases a1 : j ≤ k
  ·simp [a1, hj1]
  by_cases a2 : j = k + 1
  ·simp [a2]
  by_cases a3 : j = k + 2
  ·simp [a3]
  have a4 : j = k + 3 := by omega
  simp [a4]
end
end Go.SX
namespace Go.SX
variable [GI : GlobInv]
open Classical
variable {i s : Nat} {o : Oper} {u v : Value} {w : World}
section
variable {P : Program} {d : Nat}
theorem Fu {a : Act} {j : Nat} (h : i ≠ j) : (a.put (some i) u).put (some j) v = (a.put (some j) v).put (some i) u := by
 unfold Act.put
 simp only
 congr 1
 exact Array.setIfInBounds_comm _ _ h
theorem Q4 {x y : Addr} (h : x.block ≠ y.block) : (w.setCell x u).setCell y v = (w.setCell y v).setCell x u := by
 unfold World.setCell
 simp only
 congr 1
 apply Array.ext_getElem?
 intro i
 simp only [Array.getElem?_modify]
 by_cases h1 : x.block = i <;> by_cases h2 : y.block = i
 ·exact absurd (h1.trans h2.symm) h
 all_goals simp [h1, h2]
theorem Ev {x : Addr} {b : Nat} (h : x.block ≠ b) : ∀ (vs : List Value) (o : Nat) (w : World), (w.setCell x u).setCells b o vs = (w.setCells b o vs).setCell x u
 | [], _, _ => rfl
 | v :: r, o, w => by
  rw [World.setCells, World.setCells, Q4 (y := ⟨b, o, none⟩) h]
  exact Ev h r (o + 1) _
def C9 (o : Oper) (m : Nat) : Bool := o.after.toList.any fun e => Region.binds .any e && Nat.beq e.on m
theorem E6 {o : Oper} {m : Nat} (h : C9 o m = true) : ∃ e ∈ o.after, Region.binds .any e = true ∧ e.on = m := by
 unfold C9 at h
 rw [List.any_eq_true] at h
 obtain ⟨e, he, h⟩ := h
 rw [Bool.and_eq_true] at h
 exact ⟨e, by simpa using he, h.1, Nat.eq_of_beq_eq_true h.2⟩
def Tr (l : List Oper) (n : Nat) : Bool :=
 (l.zipIdx.all fun x => x.1.after.toList.all fun e => !Region.binds .any e || Nat.blt e.on x.2) &&
 match l.drop n with
 | [_, oI, oS, oF, oT] => C9 oI n && C9 oS n && C9 oF n && C9 oT n && C9 oS (n + 1) && C9 oT (n + 3)
 | _ => false
theorem As {F : Fence} {ops : Array Oper} {Q : Exit → Act → World → Prop} {K : Act → World → Prop} {a : Act} (ho : ops[i]? = some o) (hg : o.guard = none) (h : o.wpIn F 0 P a w K Q) : wpOpIn F 0 P ops Q i K a w := by
 unfold wpOpIn
 rw [ho]
 simp only
 rw [if_pos (by simp [Region.wanted, hg])]
 exact h
theorem Ct {F : Fence} {ops : Array Oper} {Q : Exit → Act → World → Prop} {K : Act → World → Prop} {a : Act} (ho : ops[i]? = some o) (hg : o.guard = none) (h : wpOpIn F 0 P ops Q i K a w) : o.wpIn F 0 P a w K Q := by
 unfold wpOpIn at h
 rw [ho] at h
 simp only at h
 rw [if_pos (by simp [Region.wanted, hg])] at h
 exact h
theorem D5 {a : Act} {w' : World} {K : Act → World → Prop} {Q : Exit → Act → World → Prop} {r : Option Nat} (hd : ∀ c, o.op ≠ .defer c)
  (h : (execOp a.eval o).run P w = .ok (.value v) w') (hk : o.wpIn (Fr r) 0 P a w K Q) : K (a.put o.dst v) w' := by
 have := hk.2
 rw [Oper.semAt_eq _ _ _ hd, h] at this
 exact this
theorem E7 {a : Act} {w' : World} {K : Act → World → Prop} {Q : Exit → Act → World → Prop} {r : Option Nat} (hd : ∀ c, o.op ≠ .defer c)
  (h : (execOp a.eval o).run P w = .ok .skip w') (hk : o.wpIn (Fr r) 0 P a w K Q) : K (a.put o.dst undef) w' := by
 have := hk.2
 rw [Oper.semAt_eq _ _ _ hd, h] at this
 exact this
theorem Cj {a : Act} {q : Nat} (h : q ≠ s) : (a.put (some s) v).eval (.tmp q) = a.eval (.tmp q) := eval_put h

theorem ATail.appendPut {l : List Oper} {n : Nat} {sz : Nat} {fr : Nat → AV} {up own : List AObj} {dfs : List Nat} {rnd : Option Nat} {Q : St → Prop} {ty ty2 ty3 ty4 ty5 t e tf t' : TypeId} {pos pos2 pos3 pos4 pos5 : String} {aft aft2 aft3 aft4 aft5 : Array Edge} {i : TypeInfo} {z : Value} {r s sp sf pp ti tv k kf o offp fi : Nat} {x : Operand} {o2 : Bool} {xs cs : List AV} {z0 yv : AV} {fs : Array Field} {fd : Field}
  (hdrop : [⟨some s, .call ⟨.builtin .append, #[.tmp r, x], #[t, t]⟩, ty, pos, aft, none⟩, ⟨some sp, .indexAddr t (.tmp s) (.tmp ti), ty2, pos2, aft2, none⟩, ⟨none, .store e (.tmp sp) (.tmp tv), ty3, pos3, aft3, none⟩, ⟨some sf, .fieldAddr tf (.tmp pp) fi, ty4, pos4, aft4, none⟩, ⟨none, .store t (.tmp sf) (.tmp s), ty5, pos5, aft5, none⟩] = l.drop n)
  (hok : Tr l n = true)
  (hu : P.underlying t = some (.slice e)) (hi : P.info? e = some i) (hsze : ∀ w, (Go.sizeOf e).run P w = .ok k w) (hz : i.zero = some z) (hsz : i.size = k) (hzk : z.cells.size = k) (hk : 0 < k)
  (hb : F9 (fr r) true k xs) (hx : F9 (A8 fr x) o2 k [z0]) (hti : A8 fr (.tmp ti) = .v (.int .i64 (xs.length : Int))) (htv : A8 fr (.tmp tv) = yv) (hyk : yv.cells.length = k) (hy1 : ∀ c ∈ yv.cells, c.one = true)
  (hrs : s ≠ r) (hs : s < sz) (hsp : sp < sz) (hss : sp ≠ s) (htis : ti ≠ s) (htvs : tv ≠ s) (htvp : tv ≠ sp) (hl : (xs.length + 1) * i.bytes ≤ 140737488355328) (hl2 : xs.length + 1 ≤ 4611686018427387904)
  (hf : P.underlying tf = some (.struct fs)) (hfi : fs[fi]? = some fd) (hfsz : ∀ w, (Go.sizeOf fd.type).run P w = .ok kf w) (hkf : kf ≠ 0) (hpp : A8 fr (.tmp pp) = .ptr o offp) (ho : (up ++ own)[o]? = some (.cells t' cs)) (hoff : offp + fd.offset < cs.length) (hszt : ∀ w, (Go.sizeOf t).run P w = .ok 1 w)
  (d1 : sf ≠ s) (d2 : sf ≠ sp) (d3 : sf ≠ ti) (d4 : sf ≠ tv) (d5 : pp ≠ s) (d6 : pp ≠ sp) (d7 : ti ≠ sp) (hsf : sf < sz)
  (hr : ARun P d l.toArray [⟨some sf, .fieldAddr tf (.tmp pp) fi, ty4, pos4, aft4, none⟩, ⟨none, .store t (.tmp sf) (.tmp s), ty5, pos5, aft5, none⟩] ⟨sz, A5 sp .any (A5 s (.slice true k (xs ++ [yv])) (A5 r (fr r).strip fr)), up, own, dfs, rnd⟩ Q) :
  ATail P d l n ⟨sz, fr, up, own, dfs, rnd⟩ Q := by
 intro G a w hrel listed hsz0 hL
 have hlen : l.length = n + 5 := by
  have := congrArg List.length hdrop
  simp at this
  omega
 have get : ∀ j, ([⟨some s, .call ⟨.builtin .append, #[.tmp r, x], #[t, t]⟩, ty, pos, aft, none⟩, ⟨some sp, .indexAddr t (.tmp s) (.tmp ti), ty2, pos2, aft2, none⟩, ⟨none, .store e (.tmp sp) (.tmp tv), ty3, pos3, aft3, none⟩, ⟨some sf, .fieldAddr tf (.tmp pp) fi, ty4, pos4, aft4, none⟩, ⟨none, .store t (.tmp sf) (.tmp s), ty5, pos5, aft5, none⟩] : List Oper)[j]? = l[n + j]? := fun j => by rw [hdrop, List.getElem?_drop]
 have g0 := get 0
 have g1 := get 1
 have g2 := get 2
 have g3 := get 3
 have g4 := get 4
 simp only [List.getElem?_cons_zero, List.getElem?_cons_succ, Nat.add_zero] at g0 g1 g2 g3 g4
 unfold Tr at hok
 rw [← hdrop] at hok
 simp only [Bool.and_eq_true] at hok
 obtain ⟨hok1, ⟨⟨⟨⟨eI, eS⟩, eF⟩, eT⟩, eS1⟩, eT3⟩ := hok
 have hfwd : ∀ (i : Nat) (o : Oper), l[i]? = some o → ∀ e ∈ o.after, Region.binds .any e = true → e.on < i := fun i o ho e he hbd => by
  have := List.all_eq_true.1 hok1 (o, i) (by rw [List.mem_zipIdx_iff_getElem?]; exact ho)
  have := List.all_eq_true.1 this e (by simpa using he)
  rw [hbd] at this
  simpa using this
 have hyr : Rep G w none yv (a.eval (.tmp tv)) := by
  have := hrel.eval (.tmp tv)
  have e : St.ev ⟨sz, fr, up, own, dfs, rnd⟩ (.tmp tv) = yv := htv
  rwa [e] at this
 obtain ⟨w1, ad, cap, G', hrun, hspot, hcells, hst, hkp⟩ := StRel.appendPut (P := P) (ty := ty) (st := ⟨sz, fr, up, own, dfs, rnd⟩) (x := x) hu hi hz hsz rfl hzk hk hb hx hrs hs hl hl2 hyr hyk hy1 hrel
 have hsa : s < a.tmps.size := by rw [hrel.size]; exact hs
 obtain ⟨vS, hvS⟩ : ∃ v, v = Value.slice (some ad) (xs.length + 1) cap := ⟨_, rfl⟩
 obtain ⟨pI, hpI⟩ : ∃ v, v = Value.pointer (some ⟨ad.block, ad.off + xs.length * k, none⟩) := ⟨_, rfl⟩
 obtain ⟨vF, hvF⟩ : ∃ v, v = Value.pointer (some ⟨G.blk o, offp + fd.offset, none⟩) := ⟨_, rfl⟩
 obtain ⟨a2, ha2⟩ : ∃ b, b = a.put (some s) vS := ⟨_, rfl⟩
 obtain ⟨us, hus⟩ : ∃ u, u = (a.eval (.tmp tv)).cells.toList := ⟨_, rfl⟩
 rw [← hvS, ← ha2, ← hus] at hst
 rw [← hus] at hkp
 have hsz2 : a2.tmps.size = sz := hst.size
 have hexec : (execOp a.eval (⟨some s, .call ⟨.builtin .append, #[.tmp r, x], #[t, t]⟩, ty, pos, aft, none⟩ : Oper)).run P w = .ok (.value vS) w1 := by
  have e : a.eval (.tmp r) = a.tmps.getD r undef := rfl
  rw [hvS]
  simp only [execOp, resolve, invoke, builtin, Sem.run_bind, Sem.run_pure, Result.andThen_ok, List.map_toArray, List.map_cons, List.map_nil, e, hrun]
 have ev2s : a2.eval (.tmp s) = vS := by rw [ha2]; exact Bd hsa
 have ev2ti : a2.eval (.tmp ti) = .int .i64 (xs.length : Int) := by rw [ha2, Cj htis]; exact Cd hrel hti
 have ev2tv : a2.eval (.tmp tv) = a.eval (.tmp tv) := by rw [ha2, Cj htvs]
 have ev2pp : a2.eval (.tmp pp) = .pointer (some ⟨G.blk o, offp, none⟩) := by
  rw [ha2, Cj d5]
  have := hrel.eval (.tmp pp)
  have e : St.ev ⟨sz, fr, up, own, dfs, rnd⟩ (.tmp pp) = .ptr o offp := hpp
  rw [e] at this
  generalize a.eval (.tmp pp) = u at this
  cases this; rfl
 -- where the slice's element lies is no object's block
 obtain ⟨hgb⟩ : Nonempty (G'.blk o = G.blk o) := ⟨hkp.blk o (by rw [hrel.heap.n]; exact (List.getElem?_eq_some_iff.1 ho).1)⟩
 obtain ⟨vs, h1, h2, _, h4⟩ := hst.heap.obj o _ ho
 have hcellA : ∀ q, q < cs.length → ((w1.setCells ad.block (ad.off + xs.length * k) us).cell? ⟨G.blk o, q, none⟩).isSome = true ∧ (w1.setCells ad.block (ad.off + xs.length * k) us).frozen? ⟨G.blk o, q, none⟩ = false := fun q hq => by
  rw [← hgb]
  obtain ⟨u, hu⟩ := hst.tags.ex _ _ (show G'.tag (G'.blk o) q ≠ .free by rw [h4 q hq]; simp)
  exact ⟨by rw [hu]; rfl, by simpa using hst.tags.obj _ _ _ (h4 q hq)⟩
 have hne : G.blk o ≠ ad.block := fun he => by
  have hrs' := hst.slots s
  have e1 : ((St.mk sz fr up own dfs rnd).set r (fr r).strip |>.set s (.slice true k (xs ++ [yv]))).fr s = .slice true k (xs ++ [yv]) := by simp [St.set, A5]
  rw [e1] at hrs'
  have e2 : a2.tmps.getD s undef = Value.slice (some ad) (xs.length + 1) cap := by rw [← hvS]; exact ev2s
  rw [e2] at hrs'
  generalize hxx : xs ++ [yv] = xx at hrs'
  cases hrs' with
  | slice _ _ _ _ _ _ _ f hs' hn' hc' hk' h1' hf' hr' ho' =>
   obtain ⟨c, hc⟩ : ∃ c, yv.cells[0]? = some c := by
    cases hyc : yv.cells with
    | nil => rw [hyc] at hyk; simp at hyk; omega
    | cons c _ => exact ⟨c, rfl⟩
   have := hf' xs.length yv 0 c (by rw [← hxx]; simp) hc
   have h5 : G'.tag ad.block (ad.off + xs.length * k) = .fix := this.1
   obtain ⟨u, hu⟩ := hst.tags.ex _ _ (show G'.tag ad.block (ad.off + xs.length * k) ≠ .free by rw [h5]; simp)
   unfold World.cell? at hu
   simp only at hu
   have h1' := h1
   rw [hgb, he] at h1'
   rw [h1'] at hu
   simp only [Option.isSome_none, Bool.false_eq_true, if_false] at hu
   have h6 := (Array.getElem?_eq_some_iff.1 hu).1
   have h7 := h4 (ad.off + xs.length * k) (by omega)
   rw [hgb, he, h5] at h7
   cases h7
 have hcell1 : (w1.cell? ⟨G.blk o, offp + fd.offset, none⟩).isSome = true ∧ w1.frozen? ⟨G.blk o, offp + fd.offset, none⟩ = false := by
  obtain ⟨b1, b2⟩ := hcellA _ hoff
  rw [World.cell?_setCells_out _ us _ w1 ⟨G.blk o, offp + fd.offset, none⟩ (fun hb _ => absurd hb hne)] at b1
  rw [World.frozen?_setCells] at b2
  exact ⟨b1, b2⟩
 have hvS1 : vS.oneCell' = true := by rw [hvS]; rfl
 have hvSc : vS.cells = #[vS] := by rw [hvS]; rfl
 have husl : us.length = k := by rw [hus, Array.length_toList, (hyr.cells hy1).1, hyk]
 have hus1 : ∀ u ∈ us, u.oneCell' = true := fun u hu => by
  rw [hus] at hu
  obtain ⟨q, hq⟩ := List.getElem?_of_mem hu
  have hq' : (a.eval (.tmp tv)).cells[q]? = some u := by rw [← Array.getElem?_toList]; exact hq
  have hql : q < yv.cells.length := by rw [← (hyr.cells hy1).1]; exact (Array.getElem?_eq_some_iff.1 hq').1
  have hc := List.getElem?_eq_getElem hql
  exact ((hyr.cells hy1).2 q _ u hc hq').one (hy1 _ (List.mem_of_getElem? hc))
 -- what stands when some of the four have run
 let A : Bool → Bool → Act := fun i f => bif f then (bif i then a2.put (some sp) pI else a2).put (some sf) vF else (bif i then a2.put (some sp) pI else a2)
 let W : Bool → Bool → World := fun b t => bif t then (bif b then w1.setCells ad.block (ad.off + xs.length * k) us else w1).setCell ⟨G.blk o, offp + fd.offset, none⟩ vS else (bif b then w1.setCells ad.block (ad.off + xs.length * k) us else w1)
 have evA : ∀ i f q, q ≠ sp → q ≠ sf → (A i f).eval (.tmp q) = a2.eval (.tmp q) := fun i f q h1 h2 => by
  cases i <;> cases f <;> simp only [A, cond_true, cond_false] <;> (repeat rw [Cj (by assumption)])
 have evAsp : ∀ f, (A true f).eval (.tmp sp) = pI := fun f => by
  have e : (a2.put (some sp) pI).eval (.tmp sp) = pI := Bd (by rw [hsz2]; exact hsp)
  cases f
  ·exact e
  show ((a2.put (some sp) pI).put (some sf) vF).eval (.tmp sp) = pI
  rw [Cj (Ne.symm d2)]; exact e
 have evAsf : ∀ i, (A i true).eval (.tmp sf) = vF := fun i => by
  cases i
  ·exact Bd (by show sf < a2.tmps.size; rw [hsz2]; exact hsf)
  exact Bd (by
   show sf < (a2.tmps.setIfInBounds _ _).size
   rw [Array.size_setIfInBounds, hsz2]; exact hsf)
 have xI : ∀ f w', (execOp (A false f).eval (⟨some sp, .indexAddr t (.tmp s) (.tmp ti), ty2, pos2, aft2, none⟩ : Oper)).run P w' = .ok (.value pI) w' := fun f w' => by
  have hlt : (xs.length : Int) < ((xs.length + 1 : Nat) : Int) := by omega
  have e1 := evA false f s (Ne.symm hss) (Ne.symm d1)
  have e2 := evA false f ti d7 (Ne.symm d3)
  rw [ev2s, hvS] at e1
  rw [ev2ti] at e2
  rw [hpI]
  have hadd : ad.add (xs.length * k) = ⟨ad.block, ad.off + xs.length * k, none⟩ := Ao hspot _
  rw [← hadd]
  simp [execOp, Instr.indexAt, asIntOf, e1, e2, run_underlying hu, hsze]
 have xF : ∀ i w', (execOp (A i false).eval (⟨some sf, .fieldAddr tf (.tmp pp) fi, ty4, pos4, aft4, none⟩ : Oper)).run P w' = .ok (.value vF) w' := fun i w' => by
  have e1 : (A i false).eval (.tmp pp) = .pointer (some ⟨G.blk o, offp, none⟩) := by
   rw [← ev2pp]
   cases i
   ·rfl
   exact Cj d6
  have e2 : ((⟨G.blk o, offp, none⟩ : Addr).add fd.offset) = ⟨G.blk o, offp + fd.offset, none⟩ := Ao rfl _
  rw [hvF, ← e2]
  simp [execOp, e1, Ez hf hfi hfsz hkf]
 have xS : ∀ f t, (execOp (A true f).eval (⟨none, .store e (.tmp sp) (.tmp tv), ty3, pos3, aft3, none⟩ : Oper)).run P (W false t) = .ok .skip (W true t) := fun f tt => by
  have e1 := evAsp f
  rw [hpI] at e1
  have e2 : (A true f).eval (.tmp tv) = a.eval (.tmp tv) := by rw [evA true f tv htvp (Ne.symm d4), ev2tv]
  refine C3 hsze e1 (by rw [e2, (hyr.cells hy1).1, hyk]) ?_
  rw [e2, ← hus]
  have hw : ∀ j, j < us.length → ((W false tt).cell? ⟨ad.block, ad.off + xs.length * k + 0 + j, none⟩).isSome = true ∧ (W false tt).frozen? ⟨ad.block, ad.off + xs.length * k + 0 + j, none⟩ = false := fun j hj => by
   obtain ⟨b1, b2⟩ := hcells j (by rw [← husl]; exact hj)
   rw [Nat.add_zero]
   cases tt
   ·exact ⟨b1, b2⟩
   show ((w1.setCells (G.blk o) (offp + fd.offset) [vS]).cell? _).isSome = true ∧ (w1.setCells (G.blk o) (offp + fd.offset) [vS]).frozen? _ = false
   rw [World.cell?_setCells_out (G.blk o) [vS] (offp + fd.offset) w1 ⟨ad.block, ad.off + xs.length * k + j, none⟩ (fun hb _ => absurd (show G.blk o = ad.block from hb.symm) hne), World.frozen?_setCells]
   exact ⟨b1, b2⟩
  have := run_storeCells_cells (P := P) ad.block (ad.off + xs.length * k) us 0 (W false tt) (fun j hj => (hw j hj).1) (fun j hj => (hw j hj).2) hus1
  rw [Nat.add_zero] at this
  rw [this]
  congr 1
  cases tt
  ·rfl
  exact Ev (x := ⟨G.blk o, offp + fd.offset, none⟩) hne us _ w1
 have xT : ∀ i b, (execOp (A i true).eval (⟨none, .store t (.tmp sf) (.tmp s), ty5, pos5, aft5, none⟩ : Oper)).run P (W b false) = .ok .skip (W b true) := fun i b => by
  have e1 := evAsf i
  rw [hvF] at e1
  have e2 : (A i true).eval (.tmp s) = vS := by rw [evA i true s (Ne.symm hss) (Ne.symm d1), ev2s]
  refine C3 hszt e1 (by rw [e2, hvSc]; rfl) ?_
  rw [e2, hvSc]
  have hw : ((W b false).cell? ⟨G.blk o, offp + fd.offset, none⟩).isSome = true ∧ (W b false).frozen? ⟨G.blk o, offp + fd.offset, none⟩ = false := by
   cases b
   ·exact hcell1
   exact hcellA _ hoff
  have := run_storeCells_cells (P := P) (G.blk o) (offp + fd.offset) [vS] 0 (W b false) (fun j hj => by
   have : j = 0 := by simpa using hj
   subst this
   exact hw.1) (fun j hj => by
   have : j = 0 := by simpa using hj
   subst this
   exact hw.2) (fun v hv => by rw [List.mem_singleton.1 hv]; exact hvS1)
  exact this
 -- in the text's order
 have hfin : StRel d G' ⟨sz, A5 sp .any (A5 s (.slice true k (xs ++ [yv])) (A5 r (fr r).strip fr)), up, own, dfs, rnd⟩ (A true false) (W true false) := hst.put (s := sp) (y := .any) (v := pI) hsp (.any _ _)
 have hQ : (fun e a' w' => e = Exit.normal ∧ Post d ⟨sz, fr, up, own, dfs, rnd⟩ G w Q a' w') .normal (A true true) (W true true) := by
  have h5 := hr G' _ _ hfin [n + 3, n + 4] (by simp [← g3, ← g4])
  rw [wpOpsIn_cons] at h5
  have h6 := D5 (by intro c h; cases h) (xF true _) (Ct (by simpa using g3.symm) rfl h5)
  rw [wpOpsIn_cons] at h6
  have h7 := E7 (by intro c h; cases h) (xT true true) (Ct (by simpa using g4.symm) rfl h6)
  obtain ⟨_, h8⟩ : Exit.normal = Exit.normal ∧ _ := h7
  exact ⟨rfl, h8.next hkp rfl rfl rfl⟩
 have hF : Fr ((St.mk sz fr up own dfs rnd).rnd.map G.blk) = Fr (rnd.map G.blk) := rfl
 rw [show l.length - n = 4 + 1 by omega]
 refine ⟨fun h0 => ?_, fun q hq => ?_⟩
 ·have : n ∈ Region.ready .any l.toArray listed := by
   refine mem_ready.2 ⟨by rw [Eu (by omega), hL n (by omega)]; simp, _, by simpa using g0.symm, fun e he hbd => ?_⟩
   have hlt := hfwd n _ g0.symm e he hbd
   rw [hL e.on (by omega)]
   simpa using hlt
  rw [h0] at this
  cases this
 obtain ⟨q1, oq, hoq, heq⟩ := mem_ready.1 hq
 have hoq' : l[q]? = some oq := by simpa using hoq
 have hql := (List.getElem?_eq_some_iff.1 hoq').1
 rw [Eu (by omega), hL q hql] at q1
 have hnq : n ≤ q := by simpa using q1
 have hno : ∀ o', l[q]? = some o' → C9 o' n = true → False := fun o' h1 h2 => by
  obtain ⟨e, h5, h6, h7⟩ := E6 h2
  rw [hoq'] at h1
  injection h1 with h1
  subst h1
  have := heq e h5 h6
  rw [h7, hL n (by omega)] at this
  simp at this
 have hqn : q = n := by
  refine Classical.byContradiction fun hne => ?_
  have c4 : q = n + 1 ∨ q = n + 2 ∨ q = n + 3 ∨ q = n + 4 := by omega
  rcases c4 with rfl | rfl | rfl | rfl
  ·exact hno _ g1.symm eI
  ·exact hno _ g2.symm eS
  ·exact hno _ g3.symm eF
  exact hno _ g4.symm eT
 subst hqn
 refine As (by simpa using g0.symm) rfl (Ai (by intro c h; cases h) hexec ?_)
 show wpAnyIn _ 0 P .any l.toArray _ 4 (listed.setIfInBounds q true) (a.put (some s) vS) w1
 rw [← ha2]
 refine pz (k := q) hlen hfwd (fun o' h1 => ?_) (fun o' h1 => ?_) A W (fun f tt K hK => ?_) (fun f tt K hK => ?_) (fun i b K hK => ?_) (fun i b K hK => ?_) hQ 4 _ false false false false rfl (by simpa using hsz0) (fun j hj => ?_) (fun h => by cases h) (fun h => by cases h)
 ·rw [← g2] at h1; injection h1 with h1; subst h1; exact E6 eS1
 ·rw [← g4] at h1; injection h1 with h1; subst h1; exact E6 eT3
 ·refine As (by simpa using g1.symm) rfl (Ai (by intro c h; cases h) (xI f _) ?_)
  have e : (A false f).put (some sp) pI = A true f := by
   cases f
   ·rfl
   exact Fu d2
  show K ((A false f).put (some sp) pI) _
  rw [e]; exact hK
 ·exact As (by simpa using g2.symm) rfl (Br (by intro c h; cases h) (xS f tt) hK)
 ·exact As (by simpa using g3.symm) rfl (Ai (by intro c h; cases h) (xF i _) hK)
 ·exact As (by simpa using g4.symm) rfl (Br (by intro c h; cases h) (xT i b) hK)
 have hsl : (listed.setIfInBounds q true).getD j false = if j = q then true else listed.getD j false := by
  by_cases hj2 : j = q
  ·subst hj2; simp [hsz0, hql]
  rw [getD_set_ne false (Ne.symm hj2), if_neg hj2]
 rw [hsl, hL j hj]
 by_cases hj2 : j = q
 ·simp [hj2]
 rw [if_neg hj2]
 by_cases hj3 : j ≤ q
 ·rw [if_pos hj3]; simp; omega
 rw [if_neg hj3]
 have : decide (j < q) = false := by simp; omega
 rw [this]
 repeat' split
 all_goals rfl
end
section
variable {P : Program} {d : Nat} {sz : Nat} {dfs : List Nat} {rnd : Option Nat} {l : List Oper} {fr : Nat → AV}
theorem W.drawT {id : Nat} {y : Code} {up0 own0 : List AObj} {K : Exit → St → Prop} (M : List Nat) (tn : List Nat) (S : List SegY) (up own : (Nat → Bool) → List AObj) (hm : P.follows .mixedOrders = true) (hok : okT l tn (Bw S) M = true)
  (h0 : up (fun _ => false) = up0) (h0' : own (fun _ => false) = own0) (hlen : ∀ B, (up B).length = up0.length)
  (h : ChainY P d l sz up own dfs rnd (fun ch => K (.panic ch)) (fun l' f => l' = l.drop (Bw S).length → ATail P d l (Bw S).length ⟨sz, f, up (fun p => decide (p < tn.length)), own (fun p => decide (p < tn.length)), dfs, rnd⟩ (fun s => AW P d y s K)) S l fr) :
  AW P d (.seq (.region id l.toArray true) y) ⟨sz, fr, up0, own0, dfs, rnd⟩ K := AW.seq (AW.chainT M hm hok h0 h0' hlen h)
theorem W.drawT0 {id : Nat} {up0 own0 : List AObj} {K : Exit → St → Prop} (M : List Nat) (tn : List Nat) (S : List SegY) (up own : (Nat → Bool) → List AObj) (hm : P.follows .mixedOrders = true) (hok : okT l tn (Bw S) M = true)
  (h0 : up (fun _ => false) = up0) (h0' : own (fun _ => false) = own0) (hlen : ∀ B, (up B).length = up0.length)
  (h : ChainY P d l sz up own dfs rnd (fun ch => K (.panic ch)) (fun l' f => l' = l.drop (Bw S).length → ATail P d l (Bw S).length ⟨sz, f, up (fun p => decide (p < tn.length)), own (fun p => decide (p < tn.length)), dfs, rnd⟩ (K .normal)) S l fr) :
  AW P d (.region id l.toArray true) ⟨sz, fr, up0, own0, dfs, rnd⟩ K := AW.chainT M hm hok h0 h0' hlen h
/-- At the end: append of one element, which is laid at once; the slice is stored in an object's cell. -/
theorem Y.appendPut {KP : List PanicEntry → St → Prop} {n : Nat} {up own : (Nat → Bool) → List AObj} {tn : List Nat} {Q : St → Prop} {U O : List AObj} {ty ty2 ty3 ty4 ty5 t e tf t' : TypeId} {pos pos2 pos3 pos4 pos5 : String} {aft aft2 aft3 aft4 aft5 : Array Edge} {i : TypeInfo} {z : Value} {r s sp sf pp ti tv k kf o offp fi : Nat} {x : Operand} {o2 : Bool} {b y z' : AV} {xs zs cs : List AV} {z0 yv : AV} {fs : Array Field} {fd : Field} {m : Int}
  (hok : Tr l n = true)
  (hu : P.underlying t = some (.slice e)) (hi : P.info? e = some i) (hsze : ∀ w, (Go.sizeOf e).run P w = .ok k w) (hszt : ∀ w, (Go.sizeOf t).run P w = .ok 1 w) (hf : P.underlying tf = some (.struct fs))
  (ho : (U ++ O)[o]? = some (.cells t' cs)) (hl : (xs.length + 1) * i.bytes ≤ 140737488355328) (hl2 : xs.length + 1 ≤ 4611686018427387904)
  (hr : ARun P d l.toArray [⟨some sf, .fieldAddr tf (.tmp pp) fi, ty4, pos4, aft4, none⟩, ⟨none, .store t (.tmp sf) (.tmp s), ty5, pos5, aft5, none⟩] ⟨sz, A5 sp .any (A5 s (.slice true k zs) (A5 r z' fr)), U, O, dfs, rnd⟩ Q)
  (hU : up (fun p => decide (p < tn.length)) = U := by rfl) (hO : own (fun p => decide (p < tn.length)) = O := by rfl)
  (hz : i.zero = some z := by rfl) (hsz : i.size = k := by rfl) (hzk : z.cells.size = k := by rfl) (hk : 0 < k := by decide) (hb : fr r = b := by exact sL0) (hb' : F9 b true k xs := by first | exact .inl rfl | exact .inr ⟨rfl, rfl⟩)
  (hx : A8 fr x = y := by exact sL0) (hx' : F9 y o2 k [z0] := by first | exact .inl rfl | exact .inr ⟨rfl, rfl⟩)
  (hti : A8 fr (.tmp ti) = .v (.int .i64 m) := by exact sL0) (hm : m = (xs.length : Int) := by simp) (htv : A8 fr (.tmp tv) = yv := by exact sL0) (hyk : yv.cells.length = k := by simp [go_sem]) (hy1 : yv.cells.all AV.one = true := by simp [go_sem])
  (hfi : fs[fi]? = some fd := by rfl) (hfsz : ∀ w, (Go.sizeOf fd.type).run P w = .ok kf w := by assumption) (hkf : kf ≠ 0 := by decide) (hpp : A8 fr (.tmp pp) = .ptr o offp := by exact sL0) (hoff : offp + fd.offset < cs.length := by simp)
  (hz' : b.strip = z' := by exact sL0) (hzs : xs ++ [yv] = zs := by first | rfl | (simp only [go_sem, ↓reduceIte, Nat.reduceEqDiff, Nat.reduceAdd] <;> rfl))
  (hs : Nat.blt s sz = true := by rfl) (hsp : Nat.blt sp sz = true := by rfl) (hsf : Nat.blt sf sz = true := by rfl)
  (hd : (s ≠ r ∧ sp ≠ s ∧ ti ≠ s ∧ tv ≠ s ∧ tv ≠ sp ∧ sf ≠ s ∧ sf ≠ sp ∧ sf ≠ ti ∧ sf ≠ tv ∧ pp ≠ s ∧ pp ≠ sp ∧ ti ≠ sp) := by decide) :
  ChainY P d l sz up own dfs rnd KP (fun l' f => l' = l.drop n → ATail P d l n ⟨sz, f, up (fun p => decide (p < tn.length)), own (fun p => decide (p < tn.length)), dfs, rnd⟩ Q) [] [⟨some s, .call ⟨.builtin .append, #[.tmp r, x], #[t, t]⟩, ty, pos, aft, none⟩, ⟨some sp, .indexAddr t (.tmp s) (.tmp ti), ty2, pos2, aft2, none⟩, ⟨none, .store e (.tmp sp) (.tmp tv), ty3, pos3, aft3, none⟩, ⟨some sf, .fieldAddr tf (.tmp pp) fi, ty4, pos4, aft4, none⟩, ⟨none, .store t (.tmp sf) (.tmp s), ty5, pos5, aft5, none⟩] fr := by
 intro hdrop
 subst hU
 subst hO
 subst hb
 subst hx
 subst hm
 subst hz'
 subst hzs
 obtain ⟨e1, e2, e3, e4, e5, e6, e7, e8, e9, e10, e11, e12⟩ := hd
 exact ATail.appendPut hdrop hok hu hi hsze hz hsz hzk hk hb' hx' hti htv hyk (fun c hc => List.all_eq_true.1 hy1 c hc) e1 (by simpa using hs) (by simpa using hsp) e2 e3 e4 e5 hl hl2 hf hfi hfsz hkf hpp ho hoff hszt e6 e7 e8 e9 e10 e11 e12 (by simpa using hsf) hr
end
end Go.SX
namespace Go.Proofs
open Go.RowKit
end Go.Proofs

namespace Go.SX
variable [GI : GlobInv]
open Classical

/-- Tags of object o's alone turn: the other objects stand as they stood. -/
theorem ObjRel.free {G G' : Gh} {w : World} {i o : Nat} {x : AObj} (h : ObjRel G w i x) (hne : i ≠ o) (ht : ∀ b q, G.tag b q ≠ .obj o → G'.tag b q = G.tag b q) (hb : G'.blk = G.blk) (hn : G'.n = G.n) : ObjRel G' w i x := by
 have hrep : ∀ {l : Option Loc} {y : AV} {u : Value}, Rep G w l y u → Rep G' w l y u := fun hr =>
  hr.mono (fun b q e => ⟨by rw [ht b q (by rw [e]; simp)]; exact e, rfl⟩) (Nat.le_of_eq hn.symm) (fun q _ => by rw [hb]) (fun L _ b q e => by rw [ht b q (by rw [e]; simp)]; exact e)
 have hobj : ∀ b q, G.tag b q = .obj i → G'.tag b q = .obj i := fun b q e => by
  rw [ht b q (by rw [e]; intro e'; injection e' with e'; exact hne e')]; exact e
 cases x with
 | cells t cs =>
  obtain ⟨vs, h1, h2, h3, h4⟩ := h
  exact ⟨vs, by rw [hb]; exact h1, h2, fun j y u p q => hrep (h3 j y u p q), fun j hj => by rw [hb]; exact hobj _ _ (h4 j hj)⟩
 | loop st pd fr sz ps asg bd df =>
  obtain ⟨fn, tmps, h1, h2, h3, h4⟩ := h
  exact ⟨fn, tmps, by rw [hb]; exact h1, h2, fun s => hrep (h3 s), by rw [hn]; exact h4⟩
 | defs => show w.heap[G'.blk i]? = _; rw [hb]; exact h
 | dead => show w.heap[G'.blk i]? = _; rw [hb]; exact h
 | bld t e bs => exact BldRel.turn h (by rw [hb]) hobj rfl (fun _ _ => rfl)
 | gone =>
  obtain ⟨vs, t, fz, h1, h2⟩ := h
  exact ⟨vs, t, fz, by rw [hb]; exact h1, fun j hj => by rw [hb, ht _ _ (by rw [h2 j hj]; simp)]; exact h2 j hj⟩

section
variable {P : Program} {g : FuncId}
open Go.Proofs

end

section
variable {P : Program} {d sz : Nat} {fr : Nat → AV} {up own own' : List AObj} {dfs : List Nat} {rnd : Option Nat} {Q : St → Prop} {ops : Array Oper}
end
end Go.SX
namespace Go.SX
variable [GI : GlobInv]
open Classical
section
variable {P : Program} {d : Nat} {st : St} {dst : Option Tmp} {ty : TypeId} {pos : String} {aft : Array Edge} {gd : Option (Nat × Bool)}
end
variable {P : Program} {d : Nat} {l0 : List Oper} {kd : Nat} {ops : Array Oper} {rest : List Oper} {sz : Nat} {fr fr' : Nat → AV} {up own own' up' : List AObj} {dfs : List Nat} {rnd : Option Nat} {Q : St → Prop} {E : List Oper → (Nat → AV) → Prop} {s : Nat} {ty : TypeId} {pos : String} {aft : Array Edge}
end Go.SX
namespace Go.SX
variable [GI : GlobInv]
open Classical
variable {P : Program} {d : Nat} {l0 : List Oper} {kd : Nat} {ops : Array Oper} {rest : List Oper} {sz : Nat} {fr fr' : Nat → AV} {up own own' up' : List AObj} {dfs : List Nat} {rnd : Option Nat} {Q : St → Prop} {E : List Oper → (Nat → AV) → Prop} {s : Nat} {ty : TypeId} {pos : String} {aft : Array Edge}
end Go.SX
namespace Go.SX
variable [GI : GlobInv]
open Classical
variable {P : Program} {d : Nat} {l0 : List Oper} {kd : Nat} {ops : Array Oper} {rest : List Oper} {sz : Nat} {fr fr' : Nat → AV} {up own own' up' : List AObj} {dfs : List Nat} {rnd : Option Nat} {Q : St → Prop} {E : List Oper → (Nat → AV) → Prop} {s : Nat} {ty : TypeId} {pos : String} {aft : Array Edge}
end Go.SX
namespace Go.SX
variable [GI : GlobInv]
open Classical
section
variable {P : Program} {d : Nat} {st : St} {dst : Option Tmp} {ty : TypeId} {pos : String} {aft : Array Edge} {gd : Option (Nat × Bool)}
end
variable {P : Program} {d : Nat} {ops : Array Oper} {rest : List Oper} {sz : Nat} {fr : Nat → AV} {up own : List AObj} {dfs : List Nat} {rnd : Option Nat} {Q : St → Prop} {s : Nat} {ty : TypeId} {pos : String} {aft : Array Edge}
end Go.SX
