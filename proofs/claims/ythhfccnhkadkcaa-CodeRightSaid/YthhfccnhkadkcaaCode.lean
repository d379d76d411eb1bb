/- The functions of the package code, but pack and unpack, do what they are held to do; what a shape is. -/
import Derived.Test.YthhfccnhkadkcaaGive

/- Bands and shapes: plain functions. -/
namespace Go.SL.S
open Go Go.SL
def mayB (b : Int) : Bool := decide (0 ≤ b ∧ b < 8)
def z4 : List Int := [0, 0, 0, 0]
def ofF (f : List Int) (b : Int) : List Int := if mayB b then (f.drop (b * 4).toNat).take 4 else z4
def putF (f : List Int) (b : Int) (c : List Int) : List Int := if mayB b then f.take (b * 4).toNat ++ c ++ f.drop ((b * 4).toNat + 4) else f
def loudF (m x : Int) : Bool := decide (x < -m) || decide (m < x)
def firstS (c : List Int) : Nat → Nat → Int
  | 0, s => (s : Int)
  | f + 1, s => if c.any (loudF (6 * 2 ^ s)) then firstS c f (s + 1) else (s : Int)
def stepOf (c : List Int) : Int := firstS c 15 0
def stepsF (f : List Int) : List Int := (List.range 8).map fun b : Nat => stepOf (ofF f b)
def clampF (f : List Int) : List Int := f.map fun x => max (min x 1048576) (-1048576)
abbrev SHP : Type := List Int × List (List Int)
def y8 : List (List Int) := [z4, z4, z4, z4, z4, z4, z4, z4]
def shapeY (g S k : List Int) : List (List Int) := (List.range 8).map fun b : Nat => findV (ofF g b) (S.getD b 0) (k.getD b 0)
def shapeF (f : List Int) (n : Int) : SHP := (stepsF (clampF f), shapeY (clampF f) (stepsF (clampF f)) (giveV (stepsF (clampF f)) n))
def shapeE (size : Int) : Int := if giveB size = 0 then 1 else 0
def shapeV (f : List Int) (size : Int) : SHP := if giveB size = 0 then (z8, y8) else shapeF f (giveB size)
def coefsTo (s : SHP) : Nat → List Int
  | 0 => List.replicate 32 0
  | b + 1 => putF (coefsTo s b) b (coefF (s.2.getD b z4) (s.1.getD b 0))
def coefsF (s : SHP) : List Int := coefsTo s 8
def quietF (c : List Int) : Bool := c.all fun x => decide (-12 ≤ x ∧ x ≤ 12)
def silentF (s : SHP) : Bool := quietF (coefsF s) && decide (s.1 = z8)
def errTo (x c : List Int) : Nat → Int
  | 0 => 0
  | i + 1 => errTo x c i + absF (x.getD i 0 - c.getD i 0)
def errF (f : List Int) (s : SHP) : Int := errTo (clampF f) (coefsF s) 32
def sumP : List (List Int) → Int
  | [] => 0
  | y :: l => pulsesF y + sumP l
end Go.SL.S

/- Functions and what they are held to do: bound to their code. -/
namespace Go.SL.A
open Go Go.SL Go.SL.S
set_option maxRecDepth 100000
noncomputable def C133 : Ctx := ⟨Go.Proofs.Try.prog, D, G55, meth18, fun _ => []⟩
def ann133 (_b : Int) : Nat → St → Option Ann := fun _ _ => none
def out133 (b : Int) : COut := ⟨[], .v .bool (mayB b), [], []⟩
def sp133 : Spec := fun args ins => match args, ins with
  | [⟨.int .i64, b⟩], [] => some (out133 b)
  | _, _ => none
def G133 := addG G55 133 sp133
def P133 (b : Int) : Prop :=
  ∀ (b_1 : Bool), decide ((0 : Int) ≤ b) = b_1 → ((b_1 = true → b_1 = true) ∧ (b_1 = true → b_1 = true)) ∧ (bif b_1 then decide (b < (8 : Int)) else false) = mayB b
theorem vc133 (b : Int) : P133 b = vcFun C133 (ann133 b) Go.Proofs.Try.f133 [⟨.int .i64, b⟩] [] (out133 b) := by kernel_rfl

noncomputable def C105 : Ctx := ⟨Go.Proofs.Try.prog, D, G133, meth18, fun _ => []⟩
def ann105 (_f : List Int) (_b : Int) : Nat → St → Option Ann := fun _ _ => none
def out105 (f : List Int) (b : Int) : COut := ⟨[], .v (.arr 4 (.int .i64)) (ofF f b), [], []⟩
def sp105 : Spec := fun args ins => match args, ins with
  | [⟨.arr 32 (.int .i64), f⟩, ⟨.int .i64, b⟩], [] => some (out105 f b)
  | _, _ => none
def G105 := addG G133 105 sp105
def P105 (f : List Int) (b : Int) : Prop :=
  bif !mayB b then (0 : Int) :: List.replicate (nat_lit 3) (0 : Int) = ofF f b else ((0 : Int) ≤ IntKind.wrap IntKind.i64 (b * (4 : Int)) ∧ IntKind.wrap IntKind.i64 (b * (4 : Int)) ≤ IntKind.wrap IntKind.i64 (IntKind.wrap
  IntKind.i64 (b + (1 : Int)) * (4 : Int)) ∧ IntKind.wrap IntKind.i64 (IntKind.wrap IntKind.i64 (b + (1 : Int)) * (4 : Int)) ≤ (↑(32 : Nat) : Int) ∧ (32 : Nat) ≤ (9223372036854775807 : Nat) ∧ (4 : Nat) ≤ Int.toNat
  (IntKind.wrap IntKind.i64 (IntKind.wrap IntKind.i64 (b + (1 : Int)) * (4 : Int))) - Int.toNat (IntKind.wrap IntKind.i64 (b * (4 : Int))) ∧ Int.toNat (IntKind.wrap IntKind.i64 (b * (4 : Int))) + (4 : Nat) ≤ List.length f)
  ∧ seg f (Int.toNat (IntKind.wrap IntKind.i64 (b * (4 : Int)))) (4 : Nat) = ofF f b
theorem vc105 (f : List Int) (b : Int) : P105 f b = vcFun C105 (ann105 f b) Go.Proofs.Try.f105 [⟨.arr 32 (.int .i64), f⟩, ⟨.int .i64, b⟩] [] (out105 f b) := by kernel_rfl

noncomputable def C118 : Ctx := ⟨Go.Proofs.Try.prog, D, G105, meth18, fun _ => []⟩
def ann118 (_f : List Int) (_b : Int) (_c : List Int) : Nat → St → Option Ann := fun _ _ => none
def out118 (f : List Int) (b : Int) (c : List Int) : COut := ⟨[], .v (.arr 32 (.int .i64)) (putF f b c), [], []⟩
def sp118 : Spec := fun args ins => match args, ins with
  | [⟨.arr 32 (.int .i64), f⟩, ⟨.int .i64, b⟩, ⟨.arr 4 (.int .i64), c⟩], [] => some (out118 f b c)
  | _, _ => none
def G118 := addG G105 118 sp118
def P118 (f : List Int) (b : Int) (c : List Int) : Prop :=
  bif mayB b then ((0 : Int) ≤ IntKind.wrap IntKind.i64 (b * (4 : Int)) ∧ IntKind.wrap IntKind.i64 (b * (4 : Int)) ≤ (↑(32 : Nat) : Int) ∧ (32 : Nat) ≤ (9223372036854775807 : Nat) ∧ (4 : Nat) ≤ (9223372036854775807 : Nat) ∧
  (4 : Nat) ≤ List.length c ∧ Int.toNat (IntKind.wrap IntKind.i64 (b * (4 : Int))) + ((32 : Nat) - Int.toNat (IntKind.wrap IntKind.i64 (b * (4 : Int)))) ≤ List.length f) ∧ splice f (Int.toNat (IntKind.wrap IntKind.i64 (b *
  (4 : Int)))) (List.take ((32 : Nat) - Int.toNat (IntKind.wrap IntKind.i64 (b * (4 : Int)))) (seg c (0 : Nat) (4 : Nat))) = putF f b c else f = putF f b c
theorem vc118 (f : List Int) (b : Int) (c : List Int) : P118 f b c = vcFun C118 (ann118 f b c) Go.Proofs.Try.f118 [⟨.arr 32 (.int .i64), f⟩, ⟨.int .i64, b⟩, ⟨.arr 4 (.int .i64), c⟩] [] (out118 f b c) := by kernel_rfl

noncomputable def C154 : Ctx := ⟨Go.Proofs.Try.prog, D, G118, meth18, fun _ => []⟩
def ann154 (_x _m : Int) : Nat → St → Option Ann := fun _ _ => none
def out154 (x m : Int) : COut := ⟨[0 ≤ m ∧ m ≤ 1000000], .v .bool (loudF m x), [], []⟩
def sp154 : Spec := fun args ins => match args, ins with
  | [⟨.int .i64, x⟩, ⟨.ref .ptr, .ptr 0 (.int .i64) [0]⟩], [⟨false, true, .int .i64, [m]⟩] => some (out154 x m)
  | _, _ => none
def G154 := addG G118 154 sp154
def P154 (x m : Int) : Prop :=
  ∀ (b : Bool), decide (x < IntKind.wrap IntKind.i64 ((0 : Int) - m)) = b → (((!b) = true → (!b) = true ∧ (!b) = true) ∧ (b = false → (!b) = true)) ∧ (bif b then true else decide (m < x)) = loudF m x ∧ m = m ∧ false = false
theorem vc154 (x m : Int) : P154 x m = vcFun C154 (ann154 x m) Go.Proofs.Try.f154 [⟨.int .i64, x⟩, ⟨.ref .ptr, .ptr 0 (.int .i64) [0]⟩] [⟨false, true, .int .i64, [m]⟩] (out154 x m) := by kernel_rfl

noncomputable def C90c : Ctx := ⟨Go.Proofs.Try.prog, D, G154, meth18, fun _ => []⟩
def ann90c (c : List Int) (m : Int) : Nat → St → Option Ann := fun _ _ => some ⟨Nat, [0, 1, 7], [0, 1], fun i => [(8, .v (.int .i64) (i : Int))], fun _ => [], fun i => i ≤ 4 ∧ findIx (loudF m) c 0 = findIx (loudF m) (c.drop i) i, fun i => 4 - i⟩
def out90c (c : List Int) (m : Int) : COut := ⟨[0 ≤ m ∧ m ≤ 1000000], .v (.int .i64) (findIx (loudF m) c 0), [], []⟩
def sp90c : Spec := fun args ins => match args, ins with
  | [⟨.ref .slice, .slice 0 (.arr 4 (.int .i64)) [0] 0 4⟩, ⟨.ref .func, .func (.func 154) [] [.ptr 1 (.int .i64) [0]]⟩], [⟨false, true, .arr 4 (.int .i64), [c]⟩, ⟨false, true, .int .i64, [m]⟩] => some (out90c c m)
  | _, _ => none
def G90c := addM G154 90 sp90c
def P90c (c : List Int) (m : Int) : Prop :=
  ∃ (x : Nat), (((0 : Nat) = (0 : Nat) ∧ (0 : Nat) = (0 : Nat) ∧ (4 : Nat) = (4 : Nat) ∧ (0 : Nat) = (0 : Nat) ∧ (↑(4 : Nat) : Int) = (↑(4 : Nat) : Int) ∧ (0 : Int) = (↑x : Int) ∧ c = c ∧ false = false ∧ m = m ∧ false =
  false) ∧ x ≤ (4 : Nat) ∧ findIx (loudF m) c (0 : Nat) = findIx (loudF m) (List.drop x c) x) ∧ ∀ (x : Nat), x ≤ (4 : Nat) ∧ findIx (loudF m) c (0 : Nat) = findIx (loudF m) (List.drop x c) x → IntKind.min IntKind.i64 ≤ (↑x
  : Int) ∧ (↑x : Int) ≤ IntKind.max IntKind.i64 → bif decide ((↑x : Int) < (↑(4 : Nat) : Int)) then (((0 : Int) ≤ (↑x : Int) ∧ (↑x : Int) < (↑(4 : Nat) : Int)) ∧ (0 : Nat) + Int.toNat (↑x : Int) < (4 : Nat) ∧ (0 : Int) ≤ m
  ∧ m ≤ (1000000 : Int)) ∧ bif loudF m (List.getD c ((0 : Nat) + Int.toNat (↑x : Int)) (0 : Int)) then (↑x : Int) = findIx (loudF m) c (0 : Nat) ∧ c = c ∧ false = false ∧ m = m ∧ false = false else ∃ (y : Nat), ((0 : Nat) =
  (0 : Nat) ∧ (0 : Nat) = (0 : Nat) ∧ (4 : Nat) = (4 : Nat) ∧ (0 : Nat) = (0 : Nat) ∧ (↑(4 : Nat) : Int) = (↑(4 : Nat) : Int) ∧ IntKind.wrap IntKind.i64 ((↑x : Int) + (1 : Int)) = (↑y : Int) ∧ c = c ∧ false = false ∧ m = m
  ∧ false = false) ∧ (y ≤ (4 : Nat) ∧ findIx (loudF m) c (0 : Nat) = findIx (loudF m) (List.drop y c) y) ∧ (4 : Nat) - y < (4 : Nat) - x else (-1 : Int) = findIx (loudF m) c (0 : Nat) ∧ c = c ∧ false = false ∧ m = m ∧ false
  = false
theorem vc90c (c : List Int) (m : Int) : P90c c m = vcFun C90c (ann90c c m) Go.Proofs.Try.f90 [⟨.ref .slice, .slice 0 (.arr 4 (.int .i64)) [0] 0 4⟩, ⟨.ref .func, .func (.func 154) [] [.ptr 1 (.int .i64) [0]]⟩] [⟨false, true, .arr 4 (.int .i64), [c]⟩, ⟨false, true, .int .i64, [m]⟩] (out90c c m) := by kernel_rfl

noncomputable def C130b : Ctx := ⟨Go.Proofs.Try.prog, D, G90c, meth18, fun _ => []⟩
def ann130b (_c : List Int) (_m : Int) : Nat → St → Option Ann := fun _ _ => none
def out130b (c : List Int) (m : Int) : COut := ⟨[0 ≤ m ∧ m ≤ 1000000], .v .bool (c.any (loudF m)), [], []⟩
def sp130b : Spec := fun args ins => match args, ins with
  | [⟨.ref .slice, .slice 0 (.arr 4 (.int .i64)) [0] 0 4⟩, ⟨.ref .func, .func (.func 154) [] [.ptr 1 (.int .i64) [0]]⟩], [⟨false, true, .arr 4 (.int .i64), [c]⟩, ⟨false, true, .int .i64, [m]⟩] => some (out130b c m)
  | _, _ => none
def G130b := addM G90c 130 sp130b
def P130b (c : List Int) (m : Int) : Prop :=
  ((0 : Int) ≤ m ∧ m ≤ (1000000 : Int)) ∧ decide ((0 : Int) ≤ findIx (loudF m) c (0 : Nat)) = List.any c (loudF m) ∧ c = c ∧ false = false ∧ m = m ∧ false = false
theorem vc130b (c : List Int) (m : Int) : P130b c m = vcFun C130b (ann130b c m) Go.Proofs.Try.f130 [⟨.ref .slice, .slice 0 (.arr 4 (.int .i64)) [0] 0 4⟩, ⟨.ref .func, .func (.func 154) [] [.ptr 1 (.int .i64) [0]]⟩] [⟨false, true, .arr 4 (.int .i64), [c]⟩, ⟨false, true, .int .i64, [m]⟩] (out130b c m) := by kernel_rfl

noncomputable def C132 : Ctx := ⟨Go.Proofs.Try.prog, D, G130b, meth18, fun _ => []⟩
def ann132 (c : List Int) : Nat → St → Option Ann := fun _ _ => some ⟨Nat, [1, 2], [0], fun s => [(5, .v (.int .i64) (s : Int))], fun _ => [], fun s => s ≤ 15 ∧ firstS c (15 - s) s = stepOf c, fun s => 15 - s⟩
def out132 (c : List Int) : COut := ⟨[], .v (.int .i64) (stepOf c), [], []⟩
def sp132 : Spec := fun args ins => match args, ins with
  | [⟨.arr 4 (.int .i64), c⟩], [] => some (out132 c)
  | _, _ => none
def G132 := addG G130b 132 sp132
def P132 (c : List Int) : Prop :=
  ∃ (x : Nat), (((0 : Nat) = (0 : Nat) ∧ (0 : Int) = (0 : Int) ∧ (0 : Int) = (↑x : Int) ∧ c = c ∧ false = false) ∧ x ≤ (15 : Nat) ∧ firstS c ((15 : Nat) - x) x = stepOf c) ∧ ∀ (x : Nat), x ≤ (15 : Nat) ∧ firstS c ((15 :
  Nat) - x) x = stepOf c → IntKind.min IntKind.i64 ≤ (↑x : Int) ∧ (↑x : Int) ≤ IntKind.max IntKind.i64 → bif decide ((↑x : Int) < (15 : Int)) then (0 : Int) ≤ (↑x : Int) ∧ ((4 : Nat) ≤ (9223372036854775807 : Nat) ∧ (0 :
  Int) ≤ ishl IntKind.i64 (6 : Int) (↑x : Int) ∧ ishl IntKind.i64 (6 : Int) (↑x : Int) ≤ (1000000 : Int)) ∧ bif !List.any c (loudF (ishl IntKind.i64 (6 : Int) (↑x : Int))) then (↑x : Int) = stepOf c else ∃ (y : Nat), ((0 :
  Nat) = (0 : Nat) ∧ (0 : Int) = (0 : Int) ∧ IntKind.wrap IntKind.i64 ((↑x : Int) + (1 : Int)) = (↑y : Int) ∧ c = c ∧ false = false) ∧ (y ≤ (15 : Nat) ∧ firstS c ((15 : Nat) - y) y = stepOf c) ∧ (15 : Nat) - y < (15 : Nat)
  - x else (15 : Int) = stepOf c
theorem vc132 (c : List Int) : P132 c = vcFun C132 (ann132 c) Go.Proofs.Try.f132 [⟨.arr 4 (.int .i64), c⟩] [] (out132 c) := by kernel_rfl

noncomputable def C104 : Ctx := ⟨Go.Proofs.Try.prog, D, G132, meth18, fun _ => []⟩
def ann104 (f : List Int) : Nat → St → Option Ann := fun _ _ => some ⟨Nat, [1, 2, 3], [0, 1], fun i => [(5, .v (.int .i64) (i : Int))], fun i => [(2, some ⟨false, true, .arr 8 (.int .i64), [(stepsF f).take i ++ z8.drop i]⟩)], fun i => i ≤ 8, fun i => 8 - i⟩
def out104 (f : List Int) : COut := ⟨[], .v (.arr 8 (.int .i64)) (stepsF f), [], []⟩
def sp104 : Spec := fun args ins => match args, ins with
  | [⟨.arr 32 (.int .i64), f⟩], [] => some (out104 f)
  | _, _ => none
def G104 := addG G132 104 sp104
def P104 (f : List Int) : Prop :=
  ∃ (x : Nat), (((0 : Nat) = (0 : Nat) ∧ (0 : Nat) = (0 : Nat) ∧ (0 : Nat) = (0 : Nat) ∧ (0 : Int) = (↑x : Int) ∧ f = f ∧ false = false ∧ (0 : Int) :: List.replicate (nat_lit 7) (0 : Int) = List.replicate (8 : Nat) (0 :
  Int) ∧ false = false ∧ (0 : Int) :: List.replicate (nat_lit 7) (0 : Int) = List.take x (stepsF f) ++ List.drop x z8 ∧ false = false) ∧ x ≤ (8 : Nat)) ∧ ∀ (x : Nat), x ≤ (8 : Nat) → (IntKind.min IntKind.i64 ≤ (↑x : Int) ∧
  (↑x : Int) ≤ IntKind.max IntKind.i64 ∧ ∀ (y : List Int), List.Mem y [List.take x (stepsF f) ++ List.drop x z8] → List.length y = (8 : Nat) ∧ ∀ (y_1 : Int), List.Mem y_1 y → IntKind.min IntKind.i64 ≤ y_1 ∧ y_1 ≤
  IntKind.max IntKind.i64) → bif decide ((↑x : Int) < (8 : Int)) then (((0 : Int) ≤ (↑x : Int) ∧ (↑x : Int) < (↑(8 : Nat) : Int)) ∧ Int.toNat (↑x : Int) < (8 : Nat)) ∧ ∃ (y : Nat), ((0 : Nat) = (0 : Nat) ∧ (0 : Nat) = (0 :
  Nat) ∧ (0 : Nat) = (0 : Nat) ∧ IntKind.wrap IntKind.i64 ((↑x : Int) + (1 : Int)) = (↑y : Int) ∧ f = f ∧ false = false ∧ (0 : Int) :: List.replicate (nat_lit 7) (0 : Int) = List.replicate (8 : Nat) (0 : Int) ∧ false =
  false ∧ List.set (List.take x (stepsF f) ++ List.drop x z8) (Int.toNat (↑x : Int)) (stepOf (ofF f (↑x : Int))) = List.take y (stepsF f) ++ List.drop y z8 ∧ false = false) ∧ y ≤ (8 : Nat) ∧ (8 : Nat) - y < (8 : Nat) - x
  else List.append (List.take x (stepsF f)) (List.drop x z8) = stepsF f
theorem vc104 (f : List Int) : P104 f = vcFun C104 (ann104 f) Go.Proofs.Try.f104 [⟨.arr 32 (.int .i64), f⟩] [] (out104 f) := by kernel_rfl

noncomputable def C66 : Ctx := ⟨Go.Proofs.Try.prog, D, G104, meth18, fun _ => []⟩
def ann66 (f : List Int) : Nat → St → Option Ann := fun _ _ => some ⟨Nat, [1, 2, 5], [1], fun i => [(6, .v (.int .i64) (i : Int))], fun i => [(0, some ⟨false, true, .arr 32 (.int .i64), [(clampF f).take i ++ f.drop i]⟩)], fun i => i ≤ 32, fun i => 32 - i⟩
def out66 (f : List Int) : COut := ⟨[], .v (.arr 32 (.int .i64)) (clampF f), [], []⟩
def sp66 : Spec := fun args ins => match args, ins with
  | [⟨.arr 32 (.int .i64), f⟩], [] => some (out66 f)
  | _, _ => none
def G66 := addG G104 66 sp66
def P66 (f : List Int) : Prop :=
  ∃ (x : Nat), (((0 : Nat) = (0 : Nat) ∧ (0 : Nat) = (0 : Nat) ∧ f = f ∧ (0 : Int) = (↑x : Int) ∧ f = List.take x (clampF f) ++ List.drop x f ∧ false = false ∧ (0 : Int) :: List.replicate (nat_lit 31) (0 : Int) =
  List.replicate (32 : Nat) (0 : Int) ∧ false = false) ∧ x ≤ (32 : Nat)) ∧ ∀ (x : Nat), x ≤ (32 : Nat) → (IntKind.min IntKind.i64 ≤ (↑x : Int) ∧ (↑x : Int) ≤ IntKind.max IntKind.i64 ∧ ∀ (y : List Int), List.Mem y [List.take
  x (clampF f) ++ List.drop x f] → List.length y = (32 : Nat) ∧ ∀ (y_1 : Int), List.Mem y_1 y → IntKind.min IntKind.i64 ≤ y_1 ∧ y_1 ≤ IntKind.max IntKind.i64) → bif decide ((↑x : Int) < (32 : Int)) then ((0 : Int) ≤ (↑x :
  Int) ∧ (↑x : Int) < (↑(32 : Nat) : Int)) ∧ (((0 : Int) ≤ (↑x : Int) ∧ (↑x : Int) < (↑(32 : Nat) : Int)) ∧ Int.toNat (↑x : Int) < (32 : Nat)) ∧ ∃ (y : Nat), ((0 : Nat) = (0 : Nat) ∧ (0 : Nat) = (0 : Nat) ∧ f = f ∧
  IntKind.wrap IntKind.i64 ((↑x : Int) + (1 : Int)) = (↑y : Int) ∧ List.set (List.take x (clampF f) ++ List.drop x f) (Int.toNat (↑x : Int)) (max (min (List.getD f (Int.toNat (↑x : Int)) (0 : Int)) (1048576 : Int))
  (-1048576 : Int)) = List.take y (clampF f) ++ List.drop y f ∧ false = false ∧ (0 : Int) :: List.replicate (nat_lit 31) (0 : Int) = List.replicate (32 : Nat) (0 : Int) ∧ false = false) ∧ y ≤ (32 : Nat) ∧ (32 : Nat) - y <
  (32 : Nat) - x else List.append (List.take x (clampF f)) (List.drop x f) = clampF f
theorem vc66 (f : List Int) : P66 f = vcFun C66 (ann66 f) Go.Proofs.Try.f66 [⟨.arr 32 (.int .i64), f⟩] [] (out66 f) := by kernel_rfl

noncomputable def C65 : Ctx := ⟨Go.Proofs.Try.prog, D, G66, meth18, fun _ => []⟩
def ann65 (f : List Int) (size : Int) : Nat → St → Option Ann := fun _ _ => some ⟨Nat, [2, 4, 5, 7, 8], [0, 1, 3], fun i => [(28, .v (.int .i64) (i : Int))], fun i => [(2, some ⟨false, true, .cons (.arr 8 (.int .i64)) (.last (.arr 8 (.arr 4 (.int .i64)))), [(stepsF (clampF f), (shapeY (clampF f) (stepsF (clampF f)) (giveV (stepsF (clampF f)) (giveB size))).take i ++ y8.drop i)]⟩)], fun i => i ≤ 8, fun i => 8 - i⟩
def out65 (f : List Int) (size : Int) : COut := ⟨[], .tup [⟨.cons (.arr 8 (.int .i64)) (.last (.arr 8 (.arr 4 (.int .i64)))), shapeV f size⟩, ⟨.int .i64, shapeE size⟩], [], []⟩
def sp65 : Spec := fun args ins => match args, ins with
  | [⟨.arr 32 (.int .i64), f⟩, ⟨.int .i64, size⟩], [] => some (out65 f size)
  | _, _ => none
def G65 := addG G66 65 sp65
def P65 (f : List Int) (size : Int) : Prop :=
  bif decide (giveB size = (0 : Int)) then List.replicate (8 : Nat) (0 : Int) = Prod.fst (shapeV f size) ∧ List.replicate (8 : Nat) (List.replicate (4 : Nat) (0 : Int)) = Prod.snd (shapeV f size) ∧ (1 : Int) = shapeE size
  else ∃ (x : Nat), (((0 : Nat) = (0 : Nat) ∧ (0 : Nat) = (0 : Nat) ∧ (0 : Int) = (0 : Int) ∧ (0 : Nat) = (0 : Nat) ∧ (0 : Nat) = (0 : Nat) ∧ (0 : Int) = (↑x : Int) ∧ clampF f = clampF f ∧ false = false ∧ List.replicate (8
  : Nat) (0 : Int) = List.replicate (8 : Nat) (0 : Int) ∧ List.replicate (8 : Nat) (List.replicate (4 : Nat) (0 : Int)) = List.replicate (8 : Nat) (List.replicate (4 : Nat) (0 : Int)) ∧ false = false ∧ stepsF (clampF f) =
  stepsF (clampF f) ∧ List.replicate (8 : Nat) (List.replicate (4 : Nat) (0 : Int)) = List.take x (shapeY (clampF f) (stepsF (clampF f)) (giveV (stepsF (clampF f)) (giveB size))) ++ List.drop x y8 ∧ false = false ∧ giveV
  (stepsF (clampF f)) (giveB size) = giveV (stepsF (clampF f)) (giveB size) ∧ false = false) ∧ x ≤ (8 : Nat)) ∧ ∀ (x : Nat), x ≤ (8 : Nat) → (IntKind.min IntKind.i64 ≤ (↑x : Int) ∧ (↑x : Int) ≤ IntKind.max IntKind.i64 ∧ ∀
  (y : List Int × List (List Int)), List.Mem y [(stepsF (clampF f), List.take x (shapeY (clampF f) (stepsF (clampF f)) (giveV (stepsF (clampF f)) (giveB size))) ++ List.drop x y8)] → List.length (Prod.fst y) = (8 : Nat) ∧
  (∀ (y_1 : Int), List.Mem y_1 (Prod.fst y) → IntKind.min IntKind.i64 ≤ y_1 ∧ y_1 ≤ IntKind.max IntKind.i64) ∧ List.length (Prod.snd y) = (8 : Nat) ∧ ∀ (y_1 : List Int), List.Mem y_1 (Prod.snd y) → List.length y_1 = (4 :
  Nat) ∧ ∀ (y : Int), List.Mem y y_1 → IntKind.min IntKind.i64 ≤ y ∧ y ≤ IntKind.max IntKind.i64) → bif decide ((↑x : Int) < (8 : Int)) then (((0 : Int) ≤ (↑x : Int) ∧ (↑x : Int) < (↑(8 : Nat) : Int)) ∧ Int.toNat (↑x : Int)
  < (8 : Nat) ∧ ((0 : Int) ≤ (↑x : Int) ∧ (↑x : Int) < (↑(8 : Nat) : Int)) ∧ Int.toNat (↑x : Int) < (8 : Nat) ∧ ((0 : Int) ≤ (↑x : Int) ∧ (↑x : Int) < (↑(8 : Nat) : Int)) ∧ Int.toNat (↑x : Int) < (8 : Nat)) ∧ ∃ (y : Nat),
  ((0 : Nat) = (0 : Nat) ∧ (0 : Nat) = (0 : Nat) ∧ (0 : Int) = (0 : Int) ∧ (0 : Nat) = (0 : Nat) ∧ (0 : Nat) = (0 : Nat) ∧ IntKind.wrap IntKind.i64 ((↑x : Int) + (1 : Int)) = (↑y : Int) ∧ clampF f = clampF f ∧ false = false
  ∧ List.replicate (8 : Nat) (0 : Int) = List.replicate (8 : Nat) (0 : Int) ∧ List.replicate (8 : Nat) (List.replicate (4 : Nat) (0 : Int)) = List.replicate (8 : Nat) (List.replicate (4 : Nat) (0 : Int)) ∧ false = false ∧
  stepsF (clampF f) = stepsF (clampF f) ∧ List.set (List.take x (shapeY (clampF f) (stepsF (clampF f)) (giveV (stepsF (clampF f)) (giveB size))) ++ List.drop x y8) (Int.toNat (↑x : Int)) (findV (ofF (clampF f) (↑x : Int))
  (List.getD (stepsF (clampF f)) (Int.toNat (↑x : Int)) (0 : Int)) (List.getD (giveV (stepsF (clampF f)) (giveB size)) (Int.toNat (↑x : Int)) (0 : Int))) = List.take y (shapeY (clampF f) (stepsF (clampF f)) (giveV (stepsF
  (clampF f)) (giveB size))) ++ List.drop y y8 ∧ false = false ∧ giveV (stepsF (clampF f)) (giveB size) = giveV (stepsF (clampF f)) (giveB size) ∧ false = false) ∧ y ≤ (8 : Nat) ∧ (8 : Nat) - y < (8 : Nat) - x else stepsF
  (clampF f) = Prod.fst (shapeV f size) ∧ List.take x (shapeY (clampF f) (stepsF (clampF f)) (giveV (stepsF (clampF f)) (giveB size))) ++ List.drop x y8 = Prod.snd (shapeV f size) ∧ (0 : Int) = shapeE size
theorem vc65 (f : List Int) (size : Int) : P65 f size = vcFun C65 (ann65 f size) Go.Proofs.Try.f65 [⟨.arr 32 (.int .i64), f⟩, ⟨.int .i64, size⟩] [] (out65 f size) := by kernel_rfl

noncomputable def C78 : Ctx := ⟨Go.Proofs.Try.prog, D, G65, meth18, fun _ => []⟩
def ann78 (s : SHP) : Nat → St → Option Ann := fun _ _ => some ⟨Nat, [1, 2, 3], [0, 1], fun i => [(5, .v (.int .i64) (i : Int))], fun i => [(2, some ⟨false, true, .arr 32 (.int .i64), [coefsTo s i]⟩)], fun i => i ≤ 8, fun i => 8 - i⟩
def out78 (s : SHP) : COut := ⟨[], .v (.arr 32 (.int .i64)) (coefsF s), [], []⟩
def sp78 : Spec := fun args ins => match args, ins with
  | [⟨.cons (.arr 8 (.int .i64)) (.last (.arr 8 (.arr 4 (.int .i64)))), s⟩], [] => some (out78 s)
  | _, _ => none
def G78 := addG G65 78 sp78
def P78 (s : List Int × List (List Int)) : Prop :=
  ∃ (x : Nat), (((0 : Nat) = (0 : Nat) ∧ (0 : Nat) = (0 : Nat) ∧ (0 : Nat) = (0 : Nat) ∧ (0 : Int) = (↑x : Int) ∧ Prod.fst s = Prod.fst s ∧ Prod.snd s = Prod.snd s ∧ false = false ∧ (0 : Int) :: List.replicate (nat_lit 31)
  (0 : Int) = List.replicate (32 : Nat) (0 : Int) ∧ false = false ∧ (0 : Int) :: List.replicate (nat_lit 31) (0 : Int) = coefsTo s x ∧ false = false) ∧ x ≤ (8 : Nat)) ∧ ∀ (x : Nat), x ≤ (8 : Nat) → (IntKind.min IntKind.i64
  ≤ (↑x : Int) ∧ (↑x : Int) ≤ IntKind.max IntKind.i64 ∧ ∀ (y : List Int), List.Mem y [coefsTo s x] → List.length y = (32 : Nat) ∧ ∀ (y_1 : Int), List.Mem y_1 y → IntKind.min IntKind.i64 ≤ y_1 ∧ y_1 ≤ IntKind.max
  IntKind.i64) → bif decide ((↑x : Int) < (8 : Int)) then (((0 : Int) ≤ (↑x : Int) ∧ (↑x : Int) < (↑(8 : Nat) : Int)) ∧ Int.toNat (↑x : Int) < (8 : Nat) ∧ ((0 : Int) ≤ (↑x : Int) ∧ (↑x : Int) < (↑(8 : Nat) : Int)) ∧
  Int.toNat (↑x : Int) < (8 : Nat)) ∧ ∃ (y : Nat), ((0 : Nat) = (0 : Nat) ∧ (0 : Nat) = (0 : Nat) ∧ (0 : Nat) = (0 : Nat) ∧ IntKind.wrap IntKind.i64 ((↑x : Int) + (1 : Int)) = (↑y : Int) ∧ Prod.fst s = Prod.fst s ∧ Prod.snd
  s = Prod.snd s ∧ false = false ∧ (0 : Int) :: List.replicate (nat_lit 31) (0 : Int) = List.replicate (32 : Nat) (0 : Int) ∧ false = false ∧ putF (coefsTo s x) (↑x : Int) (coefF (List.getD (Prod.snd s) (Int.toNat (↑x :
  Int)) (List.replicate (4 : Nat) (0 : Int))) (List.getD (Prod.fst s) (Int.toNat (↑x : Int)) (0 : Int))) = coefsTo s y ∧ false = false) ∧ y ≤ (8 : Nat) ∧ (8 : Nat) - y < (8 : Nat) - x else coefsTo s x = coefsF s
theorem vc78 (s : SHP) : P78 s = vcFun C78 (ann78 s) Go.Proofs.Try.f78 [⟨.cons (.arr 8 (.int .i64)) (.last (.arr 8 (.arr 4 (.int .i64)))), s⟩] [] (out78 s) := by kernel_rfl

noncomputable def C79 : Ctx := ⟨Go.Proofs.Try.prog, D, G78, meth18, fun _ => []⟩
def ann79 (s : SHP) : Nat → St → Option Ann := fun _ _ => some ⟨Nat, [1, 6], [0], fun i => [(7, .v (.int .i64) (i : Int))], fun _ => [], fun i => i ≤ 32 ∧ quietF ((coefsF s).take i) = true, fun i => 32 - i⟩
def out79 (s : SHP) : COut := ⟨[], .v .bool (silentF s), [], []⟩
def sp79 : Spec := fun args ins => match args, ins with
  | [⟨.cons (.arr 8 (.int .i64)) (.last (.arr 8 (.arr 4 (.int .i64)))), s⟩], [] => some (out79 s)
  | _, _ => none
def G79 := addG G78 79 sp79
def P79 (s : List Int × List (List Int)) : Prop :=
  ∃ (x : Nat), (((0 : Nat) = (0 : Nat) ∧ coefsF (Prod.fst s, Prod.snd s) = coefsF (Prod.fst s, Prod.snd s) ∧ (0 : Int) = (↑x : Int) ∧ Prod.fst s = Prod.fst s ∧ Prod.snd s = Prod.snd s ∧ false = false) ∧ x ≤ (32 : Nat) ∧
  quietF (List.take x (coefsF s)) = true) ∧ ∀ (x : Nat), x ≤ (32 : Nat) ∧ quietF (List.take x (coefsF s)) = true → IntKind.min IntKind.i64 ≤ (↑x : Int) ∧ (↑x : Int) ≤ IntKind.max IntKind.i64 → bif decide ((↑x : Int) < (32 :
  Int)) then ((0 : Int) ≤ (↑x : Int) ∧ (↑x : Int) < (↑(32 : Nat) : Int)) ∧ ∀ (b : Bool), decide (List.getD (coefsF (Prod.fst s, Prod.snd s)) (Int.toNat (↑x : Int)) (0 : Int) < (-12 : Int)) = b → (((!b) = true → (!b) = true)
  ∧ (b = false → (!b) = true)) ∧ bif bif b then true else decide ((12 : Int) < List.getD (coefsF (Prod.fst s, Prod.snd s)) (Int.toNat (↑x : Int)) (0 : Int)) then false = silentF s else ∃ (y : Nat), ((0 : Nat) = (0 : Nat) ∧
  coefsF (Prod.fst s, Prod.snd s) = coefsF (Prod.fst s, Prod.snd s) ∧ IntKind.wrap IntKind.i64 ((↑x : Int) + (1 : Int)) = (↑y : Int) ∧ Prod.fst s = Prod.fst s ∧ Prod.snd s = Prod.snd s ∧ false = false) ∧ (y ≤ (32 : Nat) ∧
  quietF (List.take y (coefsF s)) = true) ∧ (32 : Nat) - y < (32 : Nat) - x else Ty.eqb (Ty.arr (8 : Nat) (Ty.int IntKind.i64)) (Prod.fst s) ((0 : Int) :: List.replicate (nat_lit 7) (0 : Int)) = silentF s
theorem vc79 (s : SHP) : P79 s = vcFun C79 (ann79 s) Go.Proofs.Try.f79 [⟨.cons (.arr 8 (.int .i64)) (.last (.arr 8 (.arr 4 (.int .i64)))), s⟩] [] (out79 s) := by kernel_rfl

noncomputable def C80 : Ctx := ⟨Go.Proofs.Try.prog, D, G79, meth18, fun _ => []⟩
def ann80 (f : List Int) (s : SHP) : Nat → St → Option Ann := fun _ _ => some ⟨Nat, [6, 12], [2], fun i => [(13, .v (.int .i64) (i : Int)), (5, .v (.int .i64) (errTo (clampF f) (coefsF s) i))], fun _ => [], fun i => i ≤ 32, fun i => 32 - i⟩
def out80 (f : List Int) (s : SHP) : COut := ⟨[], .v (.int .i64) (errF f s), [], []⟩
def sp80 : Spec := fun args ins => match args, ins with
  | [⟨.arr 32 (.int .i64), f⟩, ⟨.cons (.arr 8 (.int .i64)) (.last (.arr 8 (.arr 4 (.int .i64)))), s⟩], [] => some (out80 f s)
  | _, _ => none
def G80 := addG G79 80 sp80
def P80 (f : List Int) (s : List Int × List (List Int)) : Prop :=
  ∃ (x : Nat), (((0 : Int) = errTo (clampF f) (coefsF s) x ∧ (0 : Nat) = (0 : Nat) ∧ clampF f = clampF f ∧ (0 : Int) = (↑x : Int) ∧ coefsF (Prod.fst s, Prod.snd s) = coefsF (Prod.fst s, Prod.snd s) ∧ false = false) ∧ x ≤
  (32 : Nat)) ∧ ∀ (x : Nat), x ≤ (32 : Nat) → IntKind.min IntKind.i64 ≤ (↑x : Int) ∧ (↑x : Int) ≤ IntKind.max IntKind.i64 ∧ IntKind.min IntKind.i64 ≤ errTo (clampF f) (coefsF s) x ∧ errTo (clampF f) (coefsF s) x ≤
  IntKind.max IntKind.i64 → bif decide ((↑x : Int) < (32 : Int)) then ((0 : Int) ≤ (↑x : Int) ∧ (↑x : Int) < (↑(32 : Nat) : Int)) ∧ (((0 : Int) ≤ (↑x : Int) ∧ (↑x : Int) < (↑(32 : Nat) : Int)) ∧ Int.toNat (↑x : Int) < (32 :
  Nat) ∧ ((0 : Int) ≤ (↑x : Int) ∧ (↑x : Int) < (↑(32 : Nat) : Int)) ∧ Int.toNat (↑x : Int) < (32 : Nat)) ∧ ∃ (y : Nat), (IntKind.wrap IntKind.i64 (errTo (clampF f) (coefsF s) x + max (IntKind.wrap IntKind.i64 (List.getD
  (clampF f) (Int.toNat (↑x : Int)) (0 : Int) - List.getD (coefsF (Prod.fst s, Prod.snd s)) (Int.toNat (↑x : Int)) (0 : Int))) (IntKind.wrap IntKind.i64 (List.getD (coefsF (Prod.fst s, Prod.snd s)) (Int.toNat (↑x : Int)) (0
  : Int) - List.getD (clampF f) (Int.toNat (↑x : Int)) (0 : Int)))) = errTo (clampF f) (coefsF s) y ∧ (0 : Nat) = (0 : Nat) ∧ clampF f = clampF f ∧ IntKind.wrap IntKind.i64 ((↑x : Int) + (1 : Int)) = (↑y : Int) ∧ coefsF
  (Prod.fst s, Prod.snd s) = coefsF (Prod.fst s, Prod.snd s) ∧ false = false) ∧ y ≤ (32 : Nat) ∧ (32 : Nat) - y < (32 : Nat) - x else errTo (clampF f) (coefsF s) x = errF f s
theorem vc80 (f : List Int) (s : SHP) : P80 f s = vcFun C80 (ann80 f s) Go.Proofs.Try.f80 [⟨.arr 32 (.int .i64), f⟩, ⟨.cons (.arr 8 (.int .i64)) (.last (.arr 8 (.arr 4 (.int .i64)))), s⟩] [] (out80 f s) := by kernel_rfl

noncomputable def C64 : Ctx := ⟨Go.Proofs.Try.prog, D, G80, meth18, fun _ => []⟩
def ann64  : Nat → St → Option Ann := fun _ _ => some ⟨Nat, [1, 2], [0], fun i => [(4, .v (.int .i64) (i : Int)), (3, .v (.int .i64) (sumP ((shapeV (List.replicate 32 0) 12).2.take i)))], fun _ => [], fun i => i ≤ 8, fun i => 8 - i⟩
def out64  : COut := ⟨[], .v .bool true, [], []⟩
def sp64 : Spec := fun args ins => match args, ins with
  | [], [] => some out64
  | _, _ => none
def G64 := addG G80 64 sp64
def P64  : Prop :=
  ∃ (x : Nat), (((0 : Nat) = (0 : Nat) ∧ shapeE (12 : Int) = shapeE (12 : Int) ∧ (0 : Int) = sumP (List.take x (Prod.snd (shapeV (List.replicate (32 : Nat) (0 : Int)) (12 : Int)))) ∧ (0 : Int) = (↑x : Int) ∧ Prod.fst
  (shapeV (List.replicate (32 : Nat) (0 : Int)) (12 : Int)) = Prod.fst (shapeV (List.replicate (32 : Nat) (0 : Int)) (12 : Int)) ∧ Prod.snd (shapeV (List.replicate (32 : Nat) (0 : Int)) (12 : Int)) = Prod.snd (shapeV
  (List.replicate (32 : Nat) (0 : Int)) (12 : Int)) ∧ false = false) ∧ x ≤ (8 : Nat)) ∧ ∀ (x : Nat), x ≤ (8 : Nat) → IntKind.min IntKind.i64 ≤ (↑x : Int) ∧ (↑x : Int) ≤ IntKind.max IntKind.i64 ∧ IntKind.min IntKind.i64 ≤
  sumP (List.take x (Prod.snd (shapeV (List.replicate (32 : Nat) (0 : Int)) (12 : Int)))) ∧ sumP (List.take x (Prod.snd (shapeV (List.replicate (32 : Nat) (0 : Int)) (12 : Int)))) ≤ IntKind.max IntKind.i64 → bif decide ((↑x
  : Int) < (8 : Int)) then (((0 : Int) ≤ (↑x : Int) ∧ (↑x : Int) < (↑(8 : Nat) : Int)) ∧ Int.toNat (↑x : Int) < (8 : Nat) ∧ (4 : Nat) ≤ (9223372036854775807 : Nat) ∧ Int.toNat (↑x : Int) < (8 : Nat) ∧ (4 : Nat) =
  List.length (List.getD (Prod.snd (shapeV (List.replicate (32 : Nat) (0 : Int)) (12 : Int))) (Int.toNat (↑x : Int)) (List.replicate (4 : Nat) (0 : Int)))) ∧ ∃ (y : Nat), ((0 : Nat) = (0 : Nat) ∧ shapeE (12 : Int) = shapeE
  (12 : Int) ∧ IntKind.wrap IntKind.i64 (sumP (List.take x (Prod.snd (shapeV (List.replicate (32 : Nat) (0 : Int)) (12 : Int)))) + pulsesF (List.getD (Prod.snd (shapeV (List.replicate (32 : Nat) (0 : Int)) (12 : Int)))
  (Int.toNat (↑x : Int)) (List.replicate (4 : Nat) (0 : Int)))) = sumP (List.take y (Prod.snd (shapeV (List.replicate (32 : Nat) (0 : Int)) (12 : Int)))) ∧ IntKind.wrap IntKind.i64 ((↑x : Int) + (1 : Int)) = (↑y : Int) ∧
  Prod.fst (shapeV (List.replicate (32 : Nat) (0 : Int)) (12 : Int)) = Prod.fst (shapeV (List.replicate (32 : Nat) (0 : Int)) (12 : Int)) ∧ Prod.snd (shapeV (List.replicate (32 : Nat) (0 : Int)) (12 : Int)) = Prod.snd
  (shapeV (List.replicate (32 : Nat) (0 : Int)) (12 : Int)) ∧ false = false) ∧ y ≤ (8 : Nat) ∧ (8 : Nat) - y < (8 : Nat) - x else ∀ (b : Bool), true = b → ∀ (b_1 : Bool), (bif b then Ty.eqb (Ty.arr (8 : Nat) (Ty.int
  IntKind.i64)) (Prod.fst (shapeV (List.replicate (32 : Nat) (0 : Int)) (12 : Int))) ((0 : Int) :: List.replicate (nat_lit 7) (0 : Int)) else false) = b_1 → bif bif b_1 then decide (sumP (List.take x (Prod.snd (shapeV
  (List.replicate (32 : Nat) (0 : Int)) (12 : Int)))) = (12 : Int)) else false then ((b = true → b = true) ∧ (b = true → b = true ∧ b = true) ∧ (b = true → b = true) ∧ (b_1 = true → b_1 = true) ∧ (b_1 = true → b_1 = true))
  ∧ true = true else ((b = true → b = true) ∧ (b = true → b = true ∧ b = true) ∧ (b = true → b = true) ∧ (b_1 = true → b_1 = true) ∧ (b_1 = true → b_1 = true) ∧ (false = true → false = true)) ∧ false = true
theorem vc64 : P64  = vcFun C64 (ann64 ) Go.Proofs.Try.f64 [] [] out64 := by kernel_rfl

end Go.SL.A

/- Bands and shapes: functions. -/
namespace Go.SL.A
open Go Go.SL Go.SL.S

theorem hw105 {f : List Int} {b : Int} (hw : Go.SL.allP (List.flatMap (fun a : AV => a.t.wf a.x) [⟨.arr 32 (.int .i64), f⟩, ⟨.int .i64, b⟩] ++ List.flatMap Blk.wf [])) : f.length = 32 := by
  simp only [List.flatMap_cons, List.flatMap_nil, Ty.wf, List.append_nil, List.cons_append, List.nil_append, Go.SL.allP] at hw
  exact hw.1
theorem hw66 {f : List Int} (hw : Go.SL.allP (List.flatMap (fun a : AV => a.t.wf a.x) [⟨.arr 32 (.int .i64), f⟩] ++ List.flatMap Blk.wf [])) : f.length = 32 := by
  simp only [List.flatMap_cons, List.flatMap_nil, Ty.wf, List.append_nil, Go.SL.allP] at hw
  exact hw.1
theorem hw118 {f : List Int} {b : Int} {c : List Int} (hw : Go.SL.allP (List.flatMap (fun a : AV => a.t.wf a.x) [⟨.arr 32 (.int .i64), f⟩, ⟨.int .i64, b⟩, ⟨.arr 4 (.int .i64), c⟩] ++ List.flatMap Blk.wf [])) : f.length = 32 ∧ c.length = 4 := by
  simp only [List.flatMap_cons, List.flatMap_nil, Ty.wf, List.append_nil, List.cons_append, List.nil_append, Go.SL.allP] at hw
  exact ⟨hw.1, hw.2.2.2.2.1⟩
theorem hw90c {c : List Int} {m : Int} (hw : Go.SL.allP (List.flatMap (fun a : AV => a.t.wf a.x) [⟨.ref .slice, .slice 0 (.arr 4 (.int .i64)) [0] 0 4⟩, ⟨.ref .func, .func (.func 154) [] [.ptr 1 (.int .i64) [0]]⟩] ++ List.flatMap Blk.wf [⟨false, true, .arr 4 (.int .i64), [c]⟩, ⟨false, true, .int .i64, [m]⟩])) : c.length = 4 := by
  simp only [List.flatMap_cons, List.flatMap_nil, Ty.wf, Blk.wf, List.append_nil, List.cons_append, List.nil_append, Go.SL.allP] at hw
  exact (hw.1 c (by simp)).1

structure SW (s : SHP) : Prop where
  l1 : s.1.length = 8
  l2 : s.2.length = 8
  l4 : ∀ y ∈ s.2, y.length = 4

theorem hw78 {s : SHP} (hw : Go.SL.allP (List.flatMap (fun a : AV => a.t.wf a.x) [⟨.cons (.arr 8 (.int .i64)) (.last (.arr 8 (.arr 4 (.int .i64)))), s⟩] ++ List.flatMap Blk.wf [])) : SW s := by
  simp only [List.flatMap_cons, List.flatMap_nil, Ty.wf, List.append_nil, List.cons_append, List.nil_append, Go.SL.allP] at hw
  exact ⟨hw.1, hw.2.2.1, fun y hy => (hw.2.2.2 y hy).1⟩
theorem hw80 {f : List Int} {s : SHP} (hw : Go.SL.allP (List.flatMap (fun a : AV => a.t.wf a.x) [⟨.arr 32 (.int .i64), f⟩, ⟨.cons (.arr 8 (.int .i64)) (.last (.arr 8 (.arr 4 (.int .i64)))), s⟩] ++ List.flatMap Blk.wf [])) : f.length = 32 ∧ SW s := by
  simp only [List.flatMap_cons, List.flatMap_nil, Ty.wf, List.append_nil, List.cons_append, List.nil_append, Go.SL.allP] at hw
  exact ⟨hw.1, hw.2.2.1, hw.2.2.2.2.1, fun y hy => (hw.2.2.2.2.2 y hy).1⟩

theorem SW.row {s : SHP} (h : SW s) (b : Nat) : (s.2.getD b z4).length = 4 := by
  by_cases hb : b < s.2.length
  · exact h.l4 _ (getD_mem hb)
  · rw [List.getD_eq_getElem?_getD, List.getElem?_eq_none (by omega)]; rfl

theorem pure133 (b : Int) : P133 b := by
  unfold P133
  intro p hp
  refine ⟨⟨fun h => h, fun h => h⟩, ?_⟩
  unfold mayB
  rw [← hp]
  by_cases h1 : 0 ≤ b <;> by_cases h2 : b < 8 <;> simp [h1, h2]

theorem mayB_iff {b : Int} : mayB b = true ↔ 0 ≤ b ∧ b < 8 := by unfold mayB; exact decide_eq_true_iff

theorem pure105 (f : List Int) (b : Int) (hl : f.length = 32) : P105 f b := by
  unfold P105
  cases hm : mayB b with
  | false =>
    simp only [Bool.not_false, cond_true]
    unfold ofF; rw [hm]; rfl
  | true =>
    have hb := mayB_iff.1 hm
    simp only [Bool.not_true, cond_false]
    rw [w64 (n := b * 4) (by omega) (by omega), w64 (n := b + 1) (by omega) (by omega), w64 (n := (b + 1) * 4) (by omega) (by omega)]
    refine ⟨⟨by omega, by omega, by omega, by omega, by omega, by omega⟩, ?_⟩
    unfold ofF seg; rw [hm, if_pos rfl]

theorem pure118 (f : List Int) (b : Int) (c : List Int) (hw : f.length = 32 ∧ c.length = 4) : P118 f b c := by
  obtain ⟨hf, hc⟩ := hw
  unfold P118
  cases hm : mayB b with
  | false =>
    simp only [cond_false]
    unfold putF; rw [hm]; rfl
  | true =>
    have hb := mayB_iff.1 hm
    simp only [cond_true]
    rw [w64 (n := b * 4) (by omega) (by omega)]
    refine ⟨⟨by omega, by omega, by omega, by omega, by omega, by omega⟩, ?_⟩
    have e1 : seg c 0 4 = c := by unfold seg; rw [List.drop_zero, List.take_of_length_le (by omega)]
    rw [e1, List.take_of_length_le (by omega)]
    unfold putF splice; rw [hm, if_pos rfl, hc]

theorem pure154 (x m : Int) (h : 0 ≤ m ∧ m ≤ 1000000) : P154 x m := by
  unfold P154
  rw [w64 (n := 0 - m) (by omega) (by omega), Int.zero_sub]
  intro b hb
  refine ⟨by cases b <;> simp, ?_⟩
  unfold loudF
  rw [hb]
  cases b <;> simp

theorem pure90c (c : List Int) (m : Int) (hm : 0 ≤ m ∧ m ≤ 1000000) (hl : c.length = 4) : P90c c m := by
  unfold P90c
  simp only [eq_self, true_and, and_true, Int.toNat_natCast, Nat.zero_add]
  refine ⟨0, ⟨rfl, by omega, rfl⟩, fun i hi _ => ?_⟩
  obtain ⟨hi, he⟩ := hi
  by_cases h8 : (i : Int) < ((4 : Nat) : Int)
  · have his : i < c.length := by omega
    have ed : c.drop i = c.getD i 0 :: c.drop (i + 1) := by
      rw [List.drop_eq_getElem_cons his]; simp [his]
    rw [ed, findIx] at he
    simp only [h8, decide_true, cond_true]
    refine ⟨⟨by simp, by omega, hm⟩, ?_⟩
    cases hb : loudF m (c.getD i 0) with
    | true => rw [hb, if_pos rfl] at he; simp only [cond_true]; exact he.symm
    | false =>
      rw [hb, if_neg (by simp)] at he
      simp only [cond_false]
      exact ⟨i + 1, step_i (by omega), ⟨by omega, he⟩, by omega⟩
  · have : i = 4 := by omega
    subst this
    simp only [h8, decide_false, cond_false]
    rw [he, List.drop_eq_nil_of_le (by omega)]; rfl

theorem pure130b (c : List Int) (m : Int) (hm : 0 ≤ m ∧ m ≤ 1000000) : P130b c m := by
  unfold P130b
  simp only [eq_self, and_true]
  exact ⟨hm, findIx_sign (loudF m) c 0⟩

theorem ishl6 {x : Nat} (h : x < 15) : ishl .i64 6 (x : Int) = 6 * 2 ^ x ∧ (0 : Int) ≤ 6 * 2 ^ x ∧ (6 : Int) * 2 ^ x ≤ 1000000 := by
  have : x = 0 ∨ x = 1 ∨ x = 2 ∨ x = 3 ∨ x = 4 ∨ x = 5 ∨ x = 6 ∨ x = 7 ∨ x = 8 ∨ x = 9 ∨ x = 10 ∨ x = 11 ∨ x = 12 ∨ x = 13 ∨ x = 14 := by omega
  rcases this with rfl | rfl | rfl | rfl | rfl | rfl | rfl | rfl | rfl | rfl | rfl | rfl | rfl | rfl | rfl <;> decide

theorem pure132 (c : List Int) : P132 c := by
  unfold P132
  simp only [eq_self, true_and, and_true]
  refine ⟨0, ⟨rfl, by omega, rfl⟩, fun i hi _ => ?_⟩
  obtain ⟨hi, he⟩ := hi
  by_cases h15 : (i : Int) < 15
  · obtain ⟨s1, s2, s3⟩ := ishl6 (show i < 15 by omega)
    obtain ⟨f, hf⟩ : ∃ f, 15 - i = f + 1 := ⟨14 - i, by omega⟩
    rw [hf, firstS] at he
    simp only [h15, decide_true, cond_true, s1]
    refine ⟨by omega, ⟨by decide, s2, s3⟩, ?_⟩
    cases ha : c.any (loudF (6 * 2 ^ i)) with
    | false =>
      rw [ha, if_neg (by simp)] at he
      simp only [Bool.not_false, cond_true]; exact he
    | true =>
      rw [ha, if_pos rfl] at he
      simp only [Bool.not_true, cond_false]
      exact ⟨i + 1, step_i (by omega), ⟨by omega, by rw [show 15 - (i + 1) = f by omega]; exact he⟩, by omega⟩
  · have : i = 15 := by omega
    subst this
    simp only [h15, decide_false, cond_false]
    exact he

theorem stepsF_len (f : List Int) : (stepsF f).length = 8 := by simp [stepsF]
theorem stepsF_at (f : List Int) {i : Nat} (h : i < 8) : (stepsF f)[i]? = some (stepOf (ofF f i)) := by
  unfold stepsF
  rw [List.getElem?_map, List.getElem?_range h]; rfl
theorem shapeY_len (g S k : List Int) : (shapeY g S k).length = 8 := by simp [shapeY]
theorem shapeY_at (g S k : List Int) {i : Nat} (h : i < 8) : (shapeY g S k)[i]? = some (findV (ofF g i) (S.getD i 0) (k.getD i 0)) := by
  unfold shapeY
  rw [List.getElem?_map, List.getElem?_range h]; rfl

theorem pure104 (f : List Int) : P104 f := by
  unfold P104
  simp only [eq_self, true_and, and_true, Int.toNat_natCast]
  refine ⟨0, ⟨⟨rfl, rfl, rfl⟩, by omega⟩, fun i hi _ => ?_⟩
  by_cases h : (i : Int) < 8
  · simp only [h, decide_true, cond_true]
    exact ⟨⟨by omega, by omega⟩, i + 1, ⟨step_i (by omega), rfl, set_step (by rw [stepsF_len]; omega) (by show i < 8; omega) (stepsF_at f (by omega))⟩, by omega, by omega⟩
  · simp only [h, decide_false, cond_false]
    show List.take i _ ++ List.drop i _ = _
    rw [List.take_of_length_le (by rw [stepsF_len]; omega), List.drop_eq_nil_of_le (by show 8 ≤ i; omega), List.append_nil]

theorem pure66 (f : List Int) (hl : f.length = 32) : P66 f := by
  unfold P66
  simp only [eq_self, true_and, and_true, Int.toNat_natCast]
  refine ⟨0, ⟨⟨rfl, rfl, rfl⟩, by omega⟩, fun i hi _ => ?_⟩
  have hL : (clampF f).length = 32 := by simp [clampF, hl]
  by_cases h : (i : Int) < 32
  · simp only [h, decide_true, cond_true]
    refine ⟨by omega, ⟨by omega, by omega⟩, i + 1, ⟨step_i (by omega), set_step (by omega) (by omega) ?_, rfl⟩, by omega, by omega⟩
    unfold clampF
    rw [List.getElem?_map, List.getD_eq_getElem?_getD, List.getElem?_eq_getElem (by omega)]; rfl
  · simp only [h, decide_false, cond_false]
    show List.take i _ ++ List.drop i _ = _
    rw [List.take_of_length_le (by omega), List.drop_eq_nil_of_le (by omega), List.append_nil]

theorem pure65 (f : List Int) (size : Int) : P65 f size := by
  unfold P65
  by_cases h0 : giveB size = 0
  · simp only [h0, decide_true, cond_true]
    unfold shapeV shapeE
    rw [if_pos h0, if_pos h0]
    exact ⟨rfl, rfl, rfl⟩
  · have e1 : shapeV f size = shapeF f (giveB size) := by unfold shapeV; rw [if_neg h0]
    have e2 : shapeE size = 0 := by unfold shapeE; rw [if_neg h0]
    simp only [h0, decide_false, cond_false, e1, e2, eq_self, true_and, and_true, Int.toNat_natCast]
    refine ⟨0, ⟨⟨rfl, rfl⟩, by omega⟩, fun i hi _ => ?_⟩
    by_cases h : (i : Int) < 8
    · simp only [h, decide_true, cond_true]
      exact ⟨⟨by omega, by omega, by omega, by omega, by omega, by omega⟩, i + 1, ⟨step_i (by omega), set_step (by rw [shapeY_len]; omega) (by show i < 8; omega) (shapeY_at _ _ _ (by omega))⟩, by omega, by omega⟩
    · simp only [h, decide_false, cond_false]
      rw [List.take_of_length_le (by rw [shapeY_len]; omega), List.drop_eq_nil_of_le (by show 8 ≤ i; omega), List.append_nil]
      exact ⟨rfl, rfl⟩

theorem pure78 (s : SHP) (hs : SW s) : P78 s := by
  unfold P78
  simp only [eq_self, true_and, and_true, Int.toNat_natCast]
  refine ⟨0, ⟨⟨rfl, rfl, rfl⟩, by omega⟩, fun i hi _ => ?_⟩
  by_cases h : (i : Int) < 8
  · simp only [h, decide_true, cond_true]
    exact ⟨⟨by omega, by omega, by omega, by omega⟩, i + 1, ⟨step_i (by omega), rfl, rfl⟩, by omega, by omega⟩
  · have : i = 8 := by omega
    subst this
    simp only [h, decide_false, cond_false]
    rfl

theorem coefF_len {y : List Int} {s : Int} (h : y.length = 4) : (coefF y s).length = 4 := by
  unfold coefF
  split
  · simp [h]
  · rfl

theorem putF_len {f c : List Int} (b : Int) (hf : f.length = 32) (hc : c.length = 4) : (putF f b c).length = 32 := by
  unfold putF
  split
  · rename_i h
    have := mayB_iff.1 h
    simp only [List.length_append, List.length_take, List.length_drop]; omega
  · exact hf

theorem put_at {f c : List Int} (hf : f.length = 32) (hc : c.length = 4) {b : Nat} (hb : b < 8) (i : Nat) : (putF f b c).getD i 0 = if 4 * b ≤ i ∧ i < 4 * b + 4 then c.getD (i - 4 * b) 0 else f.getD i 0 := by
  have hm : mayB (b : Int) = true := mayB_iff.2 (by omega)
  unfold putF
  rw [hm, if_pos rfl]
  have e : ((b : Int) * 4).toNat = 4 * b := by omega
  rw [e]
  simp only [List.getD_eq_getElem?_getD]
  by_cases h1 : i < 4 * b
  · rw [if_neg (by omega), List.append_assoc, List.getElem?_append_left (by simp; omega), List.getElem?_take, if_pos h1]
  · by_cases h2 : i < 4 * b + 4
    · rw [if_pos (by omega), List.append_assoc, List.getElem?_append_right (by simp; omega), List.getElem?_append_left (by simp; omega), List.length_take, Nat.min_eq_left (by omega)]
    · rw [if_neg (by omega), List.getElem?_append_right (by simp; omega), List.getElem?_drop]
      simp only [List.length_append, List.length_take, hc, hf]
      congr 2; omega

theorem coefsTo_ok {s : SHP} (hs : SW s) : ∀ b, b ≤ 8 → (coefsTo s b).length = 32 ∧ ∀ i, (coefsTo s b).getD i 0 = if i < 4 * b then (coefF (s.2.getD (i / 4) z4) (s.1.getD (i / 4) 0)).getD (i % 4) 0 else 0
  | 0, _ => by
    refine ⟨by simp [coefsTo], fun i => ?_⟩
    rw [if_neg (by omega)]
    simp only [coefsTo, List.getD_eq_getElem?_getD, List.getElem?_replicate]
    split <;> rfl
  | b + 1, hb => by
    obtain ⟨h1, h2⟩ := coefsTo_ok hs b (by omega)
    have hc := coefF_len (s := s.1.getD b 0) (hs.row b)
    refine ⟨by rw [coefsTo]; exact putF_len _ h1 hc, fun i => ?_⟩
    rw [coefsTo, put_at h1 hc (by omega)]
    by_cases h : 4 * b ≤ i ∧ i < 4 * b + 4
    · rw [if_pos h, if_pos (by omega), show i / 4 = b by omega, show i % 4 = i - 4 * b by omega]
    · rw [if_neg h, h2 i]
      by_cases h3 : i < 4 * b
      · rw [if_pos h3, if_pos (by omega)]
      · rw [if_neg h3, if_neg (by omega)]

theorem coefs_at {s : SHP} (hs : SW s) {i : Nat} (hi : i < 32) : (coefsF s).getD i 0 = (coefF (s.2.getD (i / 4) z4) (s.1.getD (i / 4) 0)).getD (i % 4) 0 := by
  have := (coefsTo_ok hs 8 (Nat.le_refl _)).2 i
  rw [if_pos (by omega)] at this
  exact this
theorem coefs_len {s : SHP} (hs : SW s) : (coefsF s).length = 32 := (coefsTo_ok hs 8 (Nat.le_refl _)).1
theorem coefs_fit {s : SHP} (hs : SW s) (i : Nat) : -393216 ≤ (coefsF s).getD i 0 ∧ (coefsF s).getD i 0 ≤ 393216 := by
  by_cases hi : i < 32
  · rw [coefs_at hs hi]; exact coefF_at _ _ _
  · rw [List.getD_eq_getElem?_getD, List.getElem?_eq_none (by rw [coefs_len hs]; omega)]; simp

theorem quiet_step {c : List Int} {i : Nat} (hi : i < c.length) : quietF (c.take (i + 1)) = (quietF (c.take i) && decide (-12 ≤ c.getD i 0 ∧ c.getD i 0 ≤ 12)) := by
  unfold quietF; rw [take_snoc' 0 hi, List.all_append]; simp
theorem quiet_not {c : List Int} {i : Nat} (hi : i < c.length) (h : ¬ (-12 ≤ c.getD i 0 ∧ c.getD i 0 ≤ 12)) : quietF c = false := by
  unfold quietF
  rw [List.all_eq_false]
  exact ⟨c.getD i 0, getD_mem hi, by simpa using h⟩

theorem pure79 (s : SHP) (hs : SW s) : P79 s := by
  unfold P79
  have he : ((s.1, s.2) : SHP) = s := rfl
  simp only [eq_self, true_and, and_true, Int.toNat_natCast, he]
  refine ⟨0, ⟨rfl, by omega, rfl⟩, fun i hi _ => ?_⟩
  obtain ⟨hi, hq⟩ := hi
  have hcl := coefs_len hs
  by_cases h : (i : Int) < 32
  · simp only [h, decide_true, cond_true]
    have hil : i < (coefsF s).length := by omega
    refine ⟨by omega, ?_⟩
    intro b hb
    refine ⟨by cases b <;> simp, ?_⟩
    have hno : ¬ (-12 ≤ (coefsF s).getD i 0 ∧ (coefsF s).getD i 0 ≤ 12) → false = silentF s := fun hn => by
      unfold silentF; rw [quiet_not hil hn]; rfl
    have hyes : (-12 ≤ (coefsF s).getD i 0 ∧ (coefsF s).getD i 0 ≤ 12) → quietF ((coefsF s).take (i + 1)) = true := fun hy => by
      rw [quiet_step hil, hq, Bool.true_and]; exact decide_eq_true hy
    generalize (coefsF s).getD i 0 = v at *
    by_cases h1 : v < -12
    · have : b = true := by rw [← hb]; exact decide_eq_true h1
      subst this
      simp only [cond_true]
      exact hno (by omega)
    · have : b = false := by rw [← hb]; exact decide_eq_false h1
      subst this
      simp only [cond_false]
      by_cases h2 : 12 < v
      · simp only [h2, decide_true, cond_true]
        exact hno (by omega)
      · simp only [h2, decide_false, cond_false]
        exact ⟨i + 1, step_i (by omega), ⟨by omega, hyes (by omega)⟩, by omega⟩
  · have : i = 32 := by omega
    subst this
    simp only [h, decide_false, cond_false]
    rw [List.take_of_length_le (by omega)] at hq
    unfold silentF
    rw [hq, Bool.true_and, eqbA hs.l1 (by rfl)]; rfl

theorem clamp_at (f : List Int) (i : Nat) : -1048576 ≤ (clampF f).getD i 0 ∧ (clampF f).getD i 0 ≤ 1048576 := by
  unfold clampF
  simp only [List.getD_eq_getElem?_getD, List.getElem?_map]
  cases f[i]? with
  | none => simp
  | some x => simp only [Option.map_some, Option.getD_some]; omega

theorem errTo_fits {x c : List Int} (hx : ∀ i, -1048576 ≤ x.getD i 0 ∧ x.getD i 0 ≤ 1048576) (hc : ∀ i, -393216 ≤ c.getD i 0 ∧ c.getD i 0 ≤ 393216) : ∀ i, 0 ≤ errTo x c i ∧ errTo x c i ≤ (i : Int) * 2000000
  | 0 => by simp [errTo]
  | i + 1 => by
    have h := errTo_fits hx hc i
    have h1 := hx i
    have h2 := hc i
    have h3 := absF_le (x.getD i 0 - c.getD i 0)
    rw [errTo]; omega

theorem pure80 (f : List Int) (s : SHP) (hw : f.length = 32 ∧ SW s) : P80 f s := by
  obtain ⟨hl, hs⟩ := hw
  unfold P80
  have he : ((s.1, s.2) : SHP) = s := rfl
  simp only [eq_self, true_and, and_true, Int.toNat_natCast, he]
  refine ⟨0, ⟨⟨rfl, rfl⟩, by omega⟩, fun i hi _ => ?_⟩
  by_cases h : (i : Int) < 32
  · simp only [h, decide_true, cond_true]
    have h1 := clamp_at f i
    have h2 := coefs_fit hs i
    have h3 := errTo_fits (clamp_at f) (coefs_fit hs) i
    have hm : max ((clampF f).getD i 0 - (coefsF s).getD i 0) ((coefsF s).getD i 0 - (clampF f).getD i 0) = absF ((clampF f).getD i 0 - (coefsF s).getD i 0) := by unfold absF; omega
    have h4 := absF_le ((clampF f).getD i 0 - (coefsF s).getD i 0)
    rw [w64 (n := (clampF f).getD i 0 - (coefsF s).getD i 0) (by omega) (by omega), w64 (n := (coefsF s).getD i 0 - (clampF f).getD i 0) (by omega) (by omega), hm, w64 (by omega) (by omega)]
    refine ⟨by omega, ⟨by omega, by omega, by omega, by omega⟩, i + 1, ⟨?_, step_i (by omega)⟩, by omega, by omega⟩
    rw [errTo]
  · have : i = 32 := by omega
    subst this
    simp only [h, decide_false, cond_false]
    unfold errF; rfl

theorem aw64 : (shapeV (List.replicate 32 0) 12).1 = z8 ∧ ((shapeV (List.replicate 32 0) 12).2).map pulsesF = [2, 2, 2, 2, 1, 1, 1, 1] ∧ ((shapeV (List.replicate 32 0) 12).2).map List.length = [4, 4, 4, 4, 4, 4, 4, 4] := by decide +kernel

theorem sumP_append : ∀ p q : List (List Int), sumP (p ++ q) = sumP p + sumP q
  | [], q => by simp [sumP]
  | x :: p, q => by simp only [List.cons_append, sumP, sumP_append p q]; omega

theorem pulses_fit (y : List Int) : 0 ≤ pulsesF y ∧ pulsesF y ≤ 13 := by
  unfold pulsesF
  split
  · omega
  · have := sumSz_le y; omega

theorem sumP_fit : ∀ l : List (List Int), 0 ≤ sumP l ∧ sumP l ≤ 13 * l.length
  | [] => by simp [sumP]
  | y :: l => by
    have := sumP_fit l
    have := pulses_fit y
    simp only [sumP, List.length_cons]; omega

theorem pure64 : P64 := by
  unfold P64
  obtain ⟨a1, a2, a3⟩ := aw64
  generalize shapeV (List.replicate 32 0) 12 = q at *
  have hl : q.2.length = 8 := by have := congrArg List.length a3; simpa using this
  simp only [eq_self, true_and, and_true, Int.toNat_natCast, a1]
  refine ⟨0, ⟨⟨rfl, rfl⟩, by omega⟩, fun i hi _ => ?_⟩
  by_cases h : (i : Int) < 8
  · simp only [h, decide_true, cond_true]
    have hil : i < q.2.length := by omega
    have h4 : (q.2.getD i (List.replicate 4 0)).length = 4 := by
      have e : (q.2.map List.length)[i]? = some 4 := by
        rw [a3]
        have : i = 0 ∨ i = 1 ∨ i = 2 ∨ i = 3 ∨ i = 4 ∨ i = 5 ∨ i = 6 ∨ i = 7 := by omega
        rcases this with rfl | rfl | rfl | rfl | rfl | rfl | rfl | rfl <;> rfl
      rw [List.getElem?_map, List.getElem?_eq_getElem hil] at e
      rw [List.getD_eq_getElem?_getD, List.getElem?_eq_getElem hil]
      simpa using e
    have f1 := sumP_fit (q.2.take i)
    have f2 := pulses_fit (q.2.getD i (List.replicate 4 0))
    have f3 : (q.2.take i).length ≤ 8 := by simp; omega
    refine ⟨⟨by omega, by omega, by decide, by omega, h4.symm⟩, i + 1, ⟨?_, step_i (by omega)⟩, by omega, by omega⟩
    rw [w64 (by omega) (by omega), take_snoc' (List.replicate 4 0) hil, sumP_append]
    simp [sumP]
  · have : i = 8 := by omega
    subst this
    simp only [h, decide_false, cond_false]
    rw [List.take_of_length_le (by omega)]
    have hs : sumP q.2 = 12 := by
      have e : ∀ l : List (List Int), sumP l = sumK (l.map pulsesF) := by
        intro l
        induction l with
        | nil => rfl
        | cons y l ih => simp only [sumP, List.map_cons, sumK, ih]
      rw [e, a2]; decide
    rw [hs]
    rintro _ rfl
    have hz : (Ty.arr 8 (Ty.int .i64)).eqb z8 (0 :: List.replicate 7 0) = true := by decide
    simp only [cond_true]
    rw [hz]
    rintro _ rfl
    simp
end Go.SL.A

/- Functions do what they are held to do. -/
namespace Go.SL.A
open Go Go.SL Go.SL.S
theorem snd133 : Sound Go.Proofs.Try.prog G133 := snd55.add ⟨_, Go.Proofs.Try.func133, by kernel_rfl, by kernel_rfl⟩ (by
  intro args ins out h hp
  unfold sp133 at h
  split at h
  · rename_i b
    cases h
    exact vcFun_ok (C := C133) good snd55 methOk18 mix Go.Proofs.Try.func133 (ann133 b) (fun hw => by rw [← vc133 b]; exact pure133 b)
  · cases h)

theorem snd105 : Sound Go.Proofs.Try.prog G105 := snd133.add ⟨_, Go.Proofs.Try.func105, by kernel_rfl, by kernel_rfl⟩ (by
  intro args ins out h hp
  unfold sp105 at h
  split at h
  · rename_i f b
    cases h
    exact vcFun_ok (C := C105) good snd133 methOk18 mix Go.Proofs.Try.func105 (ann105 f b) (fun hw => by rw [← vc105 f b]; exact pure105 f b (hw105 hw))
  · cases h)

theorem snd118 : Sound Go.Proofs.Try.prog G118 := snd105.add ⟨_, Go.Proofs.Try.func118, by kernel_rfl, by kernel_rfl⟩ (by
  intro args ins out h hp
  unfold sp118 at h
  split at h
  · rename_i f b c
    cases h
    exact vcFun_ok (C := C118) good snd105 methOk18 mix Go.Proofs.Try.func118 (ann118 f b c) (fun hw => by rw [← vc118 f b c]; exact pure118 f b c (hw118 hw))
  · cases h)

theorem snd154 : Sound Go.Proofs.Try.prog G154 := snd118.add ⟨_, Go.Proofs.Try.func154, by kernel_rfl, by kernel_rfl⟩ (by
  intro args ins out h hp
  unfold sp154 at h
  split at h
  · rename_i x m
    cases h
    exact vcFun_ok (C := C154) good snd118 methOk18 mix Go.Proofs.Try.func154 (ann154 x m) (fun hw => by rw [← vc154 x m]; exact pure154 x m hp)
  · cases h)

theorem snd90c : Sound Go.Proofs.Try.prog G90c := snd154.addM ⟨_, Go.Proofs.Try.func90, by kernel_rfl, by kernel_rfl⟩ (by
  intro args ins out h hp
  unfold sp90c at h
  split at h
  · rename_i c m
    cases h
    exact vcFun_ok (C := C90c) good snd154 methOk18 mix Go.Proofs.Try.func90 (ann90c c m) (fun hw => by rw [← vc90c c m]; exact pure90c c m hp (hw90c hw))
  · cases h)

theorem snd130b : Sound Go.Proofs.Try.prog G130b := snd90c.addM ⟨_, Go.Proofs.Try.func130, by kernel_rfl, by kernel_rfl⟩ (by
  intro args ins out h hp
  unfold sp130b at h
  split at h
  · rename_i c m
    cases h
    exact vcFun_ok (C := C130b) good snd90c methOk18 mix Go.Proofs.Try.func130 (ann130b c m) (fun hw => by rw [← vc130b c m]; exact pure130b c m hp)
  · cases h)

theorem snd132 : Sound Go.Proofs.Try.prog G132 := snd130b.add ⟨_, Go.Proofs.Try.func132, by kernel_rfl, by kernel_rfl⟩ (by
  intro args ins out h hp
  unfold sp132 at h
  split at h
  · rename_i c
    cases h
    exact vcFun_ok (C := C132) good snd130b methOk18 mix Go.Proofs.Try.func132 (ann132 c) (fun hw => by rw [← vc132 c]; exact pure132 c)
  · cases h)

theorem snd104 : Sound Go.Proofs.Try.prog G104 := snd132.add ⟨_, Go.Proofs.Try.func104, by kernel_rfl, by kernel_rfl⟩ (by
  intro args ins out h hp
  unfold sp104 at h
  split at h
  · rename_i f
    cases h
    exact vcFun_ok (C := C104) good snd132 methOk18 mix Go.Proofs.Try.func104 (ann104 f) (fun hw => by rw [← vc104 f]; exact pure104 f)
  · cases h)

theorem snd66 : Sound Go.Proofs.Try.prog G66 := snd104.add ⟨_, Go.Proofs.Try.func66, by kernel_rfl, by kernel_rfl⟩ (by
  intro args ins out h hp
  unfold sp66 at h
  split at h
  · rename_i f
    cases h
    exact vcFun_ok (C := C66) good snd104 methOk18 mix Go.Proofs.Try.func66 (ann66 f) (fun hw => by rw [← vc66 f]; exact pure66 f (hw66 hw))
  · cases h)

theorem snd65 : Sound Go.Proofs.Try.prog G65 := snd66.add ⟨_, Go.Proofs.Try.func65, by kernel_rfl, by kernel_rfl⟩ (by
  intro args ins out h hp
  unfold sp65 at h
  split at h
  · rename_i f size
    cases h
    exact vcFun_ok (C := C65) good snd66 methOk18 mix Go.Proofs.Try.func65 (ann65 f size) (fun hw => by rw [← vc65 f size]; exact pure65 f size)
  · cases h)

theorem snd78 : Sound Go.Proofs.Try.prog G78 := snd65.add ⟨_, Go.Proofs.Try.func78, by kernel_rfl, by kernel_rfl⟩ (by
  intro args ins out h hp
  unfold sp78 at h
  split at h
  · rename_i s
    cases h
    exact vcFun_ok (C := C78) good snd65 methOk18 mix Go.Proofs.Try.func78 (ann78 s) (fun hw => by rw [← vc78 s]; exact pure78 s (hw78 hw))
  · cases h)

theorem snd79 : Sound Go.Proofs.Try.prog G79 := snd78.add ⟨_, Go.Proofs.Try.func79, by kernel_rfl, by kernel_rfl⟩ (by
  intro args ins out h hp
  unfold sp79 at h
  split at h
  · rename_i s
    cases h
    exact vcFun_ok (C := C79) good snd78 methOk18 mix Go.Proofs.Try.func79 (ann79 s) (fun hw => by rw [← vc79 s]; exact pure79 s (hw78 hw))
  · cases h)

theorem snd80 : Sound Go.Proofs.Try.prog G80 := snd79.add ⟨_, Go.Proofs.Try.func80, by kernel_rfl, by kernel_rfl⟩ (by
  intro args ins out h hp
  unfold sp80 at h
  split at h
  · rename_i f s
    cases h
    exact vcFun_ok (C := C80) good snd79 methOk18 mix Go.Proofs.Try.func80 (ann80 f s) (fun hw => by rw [← vc80 f s]; exact pure80 f s (hw80 hw))
  · cases h)

theorem snd64 : Sound Go.Proofs.Try.prog G64 := snd80.add ⟨_, Go.Proofs.Try.func64, by kernel_rfl, by kernel_rfl⟩ (by
  intro args ins out h hp
  unfold sp64 at h
  split at h
  · cases h
    exact vcFun_ok (C := C64) good snd80 methOk18 mix Go.Proofs.Try.func64 (ann64 ) (fun hw => by rw [← vc64 ]; exact pure64)
  · cases h)

end Go.SL.A

/- Statements of code: plain functions. -/
namespace Go.SL.S
open Go Go.SL
def silTo (S : List Int) : Nat → Bool
  | 0 => true
  | i + 1 => bif silTo S i then decide (S.getD (i / 4) 0 = 0) else false
def nearY (Y : List (List Int)) (l : List Int) : List (List Int) := (List.range 8).map fun b : Nat => vecF 4 (pulsesF (Y.getD b z4)) ((l.getD b 0).tmod (countF 4 (pulsesF (Y.getD b z4))))
end Go.SL.S

/- Statements of code: plain laws. -/
namespace Go.SL.A
open Go Go.SL Go.SL.S

theorem hw21 {f : List Int} {z : Int} (hw : Go.SL.allP (List.flatMap (fun a : AV => a.t.wf a.x) [⟨.arr 32 (.int .i64), f⟩, ⟨.int .u8, z⟩] ++ List.flatMap Blk.wf [])) : f.length = 32 ∧ 0 ≤ z ∧ z ≤ 255 := by
  simp only [List.flatMap_cons, List.flatMap_nil, Ty.wf, List.append_nil, List.cons_append, List.nil_append, Go.SL.allP] at hw
  exact ⟨hw.1, hw.2.2.1, hw.2.2.2⟩
theorem hw29 {f : List Int} {z : Int} {l : List Int} (hw : Go.SL.allP (List.flatMap (fun a : AV => a.t.wf a.x) [⟨.arr 32 (.int .i64), f⟩, ⟨.int .u8, z⟩, ⟨.arr 8 (.int .u32), l⟩] ++ List.flatMap Blk.wf [])) : f.length = 32 ∧ (0 ≤ z ∧ z ≤ 255) ∧ l.length = 8 ∧ ∀ x ∈ l, 0 ≤ x ∧ x ≤ 4294967295 := by
  simp only [List.flatMap_cons, List.flatMap_nil, Ty.wf, List.append_nil, List.cons_append, List.nil_append, Go.SL.allP] at hw
  exact ⟨hw.1, ⟨hw.2.2.1, hw.2.2.2.1⟩, hw.2.2.2.2.1, fun x hx => hw.2.2.2.2.2 x hx⟩

theorem firstS_fits (c : List Int) : ∀ (f s : Nat), (s : Int) ≤ firstS c f s ∧ firstS c f s ≤ ((s + f : Nat) : Int)
  | 0, s => by simp [firstS]
  | f + 1, s => by
    rw [firstS]
    split
    · have := firstS_fits c f (s + 1); omega
    · omega

theorem stepOf_fits (c : List Int) : 0 ≤ stepOf c ∧ stepOf c ≤ 15 := by
  have := firstS_fits c 15 0
  unfold stepOf; omega

theorem steps_at (f : List Int) {i : Nat} (h : i < 8) : (stepsF f).getD i 0 = stepOf (ofF f i) := by
  rw [List.getD_eq_getElem?_getD, stepsF_at f h]; rfl

theorem steps_right (f : List Int) : rightF (stepsF f) = true := by
  unfold rightF stepsF
  simp only [Bool.not_eq_true', List.any_eq_false, List.mem_map]
  rintro _ ⟨x, -, rfl⟩
  have := stepOf_fits (ofF f x)
  unfold badF
  simp only [Bool.or_eq_true, decide_eq_true_eq]; omega

theorem clamp_idem (f : List Int) : clampF (clampF f) = clampF f := by
  unfold clampF
  rw [List.map_map]
  refine List.map_congr_left fun x _ => ?_
  simp only [Function.comp_apply]; omega

theorem ofF_at (f : List Int) {b : Nat} (hb : b < 8) {j : Nat} (hj : j < 4) : (ofF f b).getD j 0 = f.getD (4 * b + j) 0 := by
  unfold ofF
  rw [mayB_iff.2 (by omega), if_pos rfl, show ((b : Int) * 4).toNat = 4 * b by omega]
  simp only [List.getD_eq_getElem?_getD, List.getElem?_take, List.getElem?_drop, if_pos hj]

theorem held_of (f : List Int) (b : Nat) (hb : b < 8) : heldF (ofF (clampF f) b) = true := by
  unfold heldF
  rw [List.all_eq_true]
  intro x hx
  unfold ofF at hx
  rw [mayB_iff.2 (by omega), if_pos rfl] at hx
  have hx := List.mem_of_mem_drop (List.mem_of_mem_take hx)
  unfold clampF at hx
  obtain ⟨y, -, rfl⟩ := List.mem_map.1 hx
  rw [decide_eq_true_eq]; omega

/-- What is known of a shape. -/
structure Shp (f : List Int) (n : Int) : Prop where
  ok : shapeE n = 0
  sw : SW (shapeV f n)
  st : ∀ b : Nat, 0 ≤ (shapeV f n).1.getD b 0 ∧ (shapeV f n).1.getD b 0 ≤ 15
  side : (shapeV f n).1 = stepsF (clampF f)
  row : ∀ b : Nat, b < 8 → ∃ k, (0 ≤ k ∧ k ≤ 12) ∧ Found (ofF (clampF f) b) ((shapeV f n).1.getD b 0) k ((shapeV f n).2.getD b z4)

theorem shp (f : List Int) {n : Int} (hn : 12 ≤ n ∧ n ≤ 24) : Shp f n := by
  have hB : giveB n = 8 * n - 64 := by unfold giveB; rw [if_neg (by omega)]
  have hV : shapeV f n = shapeF f (8 * n - 64) := by unfold shapeV; rw [hB, if_neg (by omega)]
  have hE : shapeE n = 0 := by unfold shapeE; rw [hB, if_neg (by omega)]
  have hr := steps_right (clampF f)
  obtain ⟨-, gV⟩ := giveV_ok (bits := 8 * n - 64) hr (by omega)
  obtain ⟨left, -, g1, -, g2⟩ := give_end (stepsF (clampF f)) (B := 8 * n - 64) (by omega)
  rw [← gV] at g1 g2
  have row : ∀ b : Nat, b < 8 → ∃ k, (0 ≤ k ∧ k ≤ 12) ∧ Found (ofF (clampF f) b) ((shapeF f (8 * n - 64)).1.getD b 0) k ((shapeF f (8 * n - 64)).2.getD b z4) := by
    intro b hb
    refine ⟨_, (g2 b hb).1, ?_⟩
    have e : (shapeF f (8 * n - 64)).2.getD b z4 = findV (ofF (clampF f) b) ((stepsF (clampF f)).getD b 0) ((giveV (stepsF (clampF f)) (8 * n - 64)).getD b 0) := by
      rw [List.getD_eq_getElem?_getD]
      have := shapeY_at (clampF f) (stepsF (clampF f)) (giveV (stepsF (clampF f)) (8 * n - 64)) hb
      unfold shapeF
      rw [this]; rfl
    rw [e]
    exact (findV_ok (held_of f b hb) (right_at hr b) (g2 b hb).1).2
  rw [← hV] at row
  refine ⟨hE, ⟨?_, ?_, fun y hy => ?_⟩, fun b => ?_, by rw [hV]; rfl, row⟩
  · rw [hV]; exact stepsF_len _
  · rw [hV]; exact shapeY_len _ _ _
  · obtain ⟨i, hi, rfl⟩ := List.mem_iff_getElem.1 hy
    have hi8 : i < 8 := by rw [hV] at hi; exact (shapeY_len _ _ _ ▸ hi)
    obtain ⟨k, -, F⟩ := row i hi8
    have := F.len
    rw [List.getD_eq_getElem?_getD, List.getElem?_eq_getElem hi] at this
    exact this
  · rw [hV]; exact right_at hr b

theorem eqbS {s : SHP} : Ty.eqb (.cons (.arr 8 (.int .i64)) (.last (.arr 8 (.arr 4 (.int .i64))))) s s = true := by
  simp [Ty.eqb]

theorem shape_clamp (f : List Int) (n : Int) : shapeV (clampF f) n = shapeV f n := by
  unfold shapeV shapeF
  rw [clamp_idem]

theorem coef_row {y : List Int} {s : Int} (hf : fewF y = true) (hs : 0 ≤ s ∧ s ≤ 15) (j : Nat) : (coefF y s).getD j 0 = y.getD j 0 * gainF s := by
  have hm : mayF14 y s = true := by unfold mayF14; rw [hf, Bool.true_and, decide_eq_true_eq]; exact gain_pos hs
  rw [coefF_may hm, getD_map0]

theorem mul_le12 {x g : Int} (h1 : -12 ≤ x ∧ x ≤ 12) (h2 : 0 ≤ g) : -(12 * g) ≤ x * g ∧ x * g ≤ 12 * g := by
  have a := Int.mul_le_mul_of_nonneg_right h1.2 h2
  have b := Int.mul_le_mul_of_nonneg_right h1.1 h2
  have c : (-12 : Int) * g = -(12 * g) := by rw [Int.neg_mul]
  omega

theorem coefs_loud {f : List Int} {n : Int} (h : Shp f n) {i : Nat} (hi : i < 32) : -(12 * gainF ((shapeV f n).1.getD (i / 4) 0)) ≤ (coefsF (shapeV f n)).getD i 0 ∧ (coefsF (shapeV f n)).getD i 0 ≤ 12 * gainF ((shapeV f n).1.getD (i / 4) 0) := by
  obtain ⟨k, -, F⟩ := h.row (i / 4) (by omega)
  rw [coefs_at h.sw hi]
  have e := coef_row F.few (h.st (i / 4)) (i % 4)
  rw [e]
  exact mul_le12 (fewF_at F.few _) (gain_fits _).1

theorem shl12 {s : Int} (h : 0 ≤ s ∧ s ≤ 15) : iand .i64 s 15 = s ∧ ishl .i64 12 s = 12 * gainF s := by
  have : s = 0 ∨ s = 1 ∨ s = 2 ∨ s = 3 ∨ s = 4 ∨ s = 5 ∨ s = 6 ∨ s = 7 ∨ s = 8 ∨ s = 9 ∨ s = 10 ∨ s = 11 ∨ s = 12 ∨ s = 13 ∨ s = 14 ∨ s = 15 := by omega
  rcases this with rfl | rfl | rfl | rfl | rfl | rfl | rfl | rfl | rfl | rfl | rfl | rfl | rfl | rfl | rfl | rfl <;> decide

theorem silTo_all (S : List Int) : ∀ i, silTo S i = true ↔ ∀ j, j < i → S.getD (j / 4) 0 = 0
  | 0 => by simp [silTo]
  | i + 1 => by
    rw [silTo]
    cases hs : silTo S i with
    | false =>
      simp only [cond_false, Bool.false_eq_true, false_iff]
      intro h
      rw [(silTo_all S i).2 fun j hj => h j (by omega)] at hs
      cases hs
    | true =>
      have ih := (silTo_all S i).1 hs
      simp only [cond_true, decide_eq_true_eq]
      constructor
      · intro h j hj
        by_cases e : j = i
        · subst e; exact h
        · exact ih j (by omega)
      · intro h; exact h i (by omega)

theorem z8_of {S : List Int} (hl : S.length = 8) : S = z8 ↔ ∀ j, j < 32 → S.getD (j / 4) 0 = 0 := by
  constructor
  · rintro rfl j _; exact z8_at _
  · intro h
    refine List.ext_getElem (by rw [hl]; rfl) fun i h1 h2 => ?_
    have a := h (4 * i) (by omega)
    rw [show 4 * i / 4 = i by omega] at a
    have b := z8_at i
    rw [List.getD_eq_getElem?_getD, List.getElem?_eq_getElem h1] at a
    rw [List.getD_eq_getElem?_getD, List.getElem?_eq_getElem h2] at b
    exact (show S[i] = 0 from a).trans (show z8[i] = 0 from b).symm

theorem silent_sil {f : List Int} {n : Int} (h : Shp f n) : silentF (shapeV f n) = silTo (shapeV f n).1 32 := by
  rw [Bool.eq_iff_iff, silTo_all, ← z8_of h.sw.l1]
  unfold silentF
  rw [Bool.and_eq_true, decide_eq_true_eq]
  refine ⟨fun h => h.2, fun hz => ⟨?_, hz⟩⟩
  unfold quietF
  rw [List.all_eq_true]
  intro x hx
  obtain ⟨i, hi, rfl⟩ := List.mem_iff_getElem.1 hx
  have hL := coefs_len h.sw
  have := coefs_loud h (i := i) (by omega)
  rw [hz, z8_at, List.getD_eq_getElem?_getD, List.getElem?_eq_getElem hi] at this
  have g0 : gainF 0 = 1 := by decide
  rw [g0] at this
  simpa using this

/-- A shape's error, one band more. -/
theorem err_band {x : List Int} {u : SHP} (hu : SW u) {b : Nat} (hb : b < 8) (hr : 0 ≤ u.1.getD b 0 ∧ u.1.getD b 0 ≤ 15) (fu : fewF (u.2.getD b z4) = true) :
    errTo x (coefsF u) (4 * (b + 1)) = errTo x (coefsF u) (4 * b) + farF (ofF x b) (u.2.getD b z4) (gainF (u.1.getD b 0)) := by
  have hc := fun (j : Nat) (hj : 4 * b + j < 32) => coefs_at hu hj
  generalize coefsF u = c at *
  have e : ∀ j, j < 4 → absF (x.getD (4 * b + j) 0 - c.getD (4 * b + j) 0) = absF ((ofF x b).getD j 0 - (u.2.getD b z4).getD j 0 * gainF (u.1.getD b 0)) := by
    intro j hj
    have r := coef_row fu hr j
    rw [hc j (by omega), show (4 * b + j) / 4 = b by omega, show (4 * b + j) % 4 = j by omega, r, ofF_at x hb hj]
  have e0 := e 0 (by omega)
  have e1 := e 1 (by omega)
  have e2 := e 2 (by omega)
  have e3 := e 3 (by omega)
  rw [show 4 * (b + 1) = 4 * b + 1 + 1 + 1 + 1 by omega, errTo, errTo, errTo, errTo]
  unfold farF
  rw [Nat.add_zero] at e0
  rw [show 4 * b + 1 + 1 = 4 * b + 2 by omega, show 4 * b + 2 + 1 = 4 * b + 3 by omega, e0, e1, e2, e3]
  generalize errTo x c (4 * b) = E
  omega

/-- The errors of two shapes of the same steps, band by band. -/
theorem err_le {x : List Int} {s t : SHP} (hs : SW s) (ht : SW t) (hst : s.1 = t.1) (hr : ∀ b : Nat, 0 ≤ s.1.getD b 0 ∧ s.1.getD b 0 ≤ 15)
    (fs : ∀ b : Nat, b < 8 → fewF (s.2.getD b z4) = true) (ft : ∀ b : Nat, b < 8 → fewF (t.2.getD b z4) = true)
    (hb : ∀ b : Nat, b < 8 → farF (ofF x b) (s.2.getD b z4) (gainF (s.1.getD b 0)) ≤ farF (ofF x b) (t.2.getD b z4) (gainF (s.1.getD b 0))) (b : Nat) :
    b ≤ 8 → errTo x (coefsF s) (4 * b) ≤ errTo x (coefsF t) (4 * b) := by
  induction b with
  | zero => intro _; rw [Nat.mul_zero, errTo, errTo]; exact Int.le_refl 0
  | succ b ih =>
    intro h
    have ih := ih (by omega)
    rw [err_band hs (by omega) (hr b) (fs b (by omega)), err_band ht (by omega) (by rw [← hst]; exact hr b) (ft b (by omega)), ← hst]
    have := hb b (by omega)
    generalize errTo x (coefsF s) (4 * b) = A at *
    generalize errTo x (coefsF t) (4 * b) = B at *
    omega
end Go.SL.A
