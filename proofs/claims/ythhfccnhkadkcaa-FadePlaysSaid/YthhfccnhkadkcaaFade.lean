/- The functions of the package fade, and of its statements, do what they are held to do. -/
import Derived.Test.YthhfccnhkadkcaaT
import Derived.Test.YthhfccnhkadkcaaKb

/- Plain functions of fade. -/
namespace Go.SL.S
open Go

def sizeF (x : Int) : Int := max x (IntKind.i64.wrap (0 - x))
/-- One number, of the n-th frame that is missing. -/
def scale1 (n x : Int) : Int := max (4 - n) 0 * x.tdiv 4 + (if n < 4 then ((4 - n) * x.tmod 4).tdiv 4 else 0)
def scaleF (f : List Int) (n : Int) : List Int := if n < 1 then f else f.map (scale1 n)
end Go.SL.S
namespace Go.SL.A
open Go Go.SL
def G00 : FuncId → Option Spec := fun _ => none
theorem snd00 : Sound Go.Proofs.Try.prog G00 := Sound.none
end Go.SL.A
namespace Go.SL.S
open Go
abbrev Arr : Ty := .arr 32 (.int .i64)
abbrev Got : Ty := .cons .bool (.last Arr)
abbrev Last : Ty := .cons Arr (.last (.int .i64))
def nextF (s : List Int × Int) (g : Bool × List Int) : List Int × Int := match g.1 with
  | true => (g.2, 0)
  | false => (s.1, IntKind.i64.wrap (s.2 + 1))
def frameF (s : List Int × Int) : List Int := scaleF s.1 s.2
/-- All frames, from a state on. -/
def fillF : List Int × Int → List (Bool × List Int) → List (List Int)
  | _, [] => []
  | s, g :: l => frameF (nextF s g) :: fillF (nextF s g) l
def zero32 : List Int := List.replicate 32 0
def stateF (xs : List (Bool × List Int)) : List Int × Int := xs.foldl nextF (zero32, 0)
def remF (x : Int) : Int := x.tmod 1099511627776
def heldF (xs : List (Bool × List Int)) : List (Bool × List Int) := (xs.take 100).map fun g => (g.1, g.2.map remF)
end Go.SL.S

/- Functions and what they are held to do: bound to their code. -/
namespace Go.SL.A
open Go Go.SL Go.SL.S
set_option maxRecDepth 100000
noncomputable def C34 : Ctx := ⟨Go.Proofs.Try.prog, D, G00, (fun _ _ => none), fun _ => []⟩
def ann34 (x : Int) : Nat → St → Option Ann := fun _ _ => none
def sp34 : Spec := fun args ins => match args, ins with
  | [⟨.int .i64, x⟩], [] => some ⟨[], .v (.int .i64) (sizeF x), [], []⟩
  | _, _ => none
def G34 := addG G00 34 sp34
def P34 (x : Int) : Prop :=
  max x (IntKind.wrap IntKind.i64 ((0 : Int) - x)) = sizeF x
theorem vc34 (x : Int) : P34 x = vcFun C34 (ann34 x) Go.Proofs.Try.f34 [⟨.int .i64, x⟩] [] ⟨[], .v (.int .i64) (sizeF x), [], []⟩ := by kernel_rfl

noncomputable def C35 : Ctx := ⟨Go.Proofs.Try.prog, D, G34, (fun _ _ => none), fun _ => []⟩
def ann35 (f : List Int) (n : Int) : Nat → St → Option Ann := fun _ _ => some ⟨Nat, [1,2,4,10], [0,1], fun k => [(11, .v (.int .i64) (k : Int))], fun k => [(0, some ⟨false, true, .arr 32 (.int .i64), [(scaleF f n).take k ++ f.drop k]⟩)], fun k => k ≤ 32, fun k => 32 - k⟩
def sp35 : Spec := fun args ins => match args, ins with
  | [⟨.arr 32 (.int .i64), f⟩, ⟨.int .i64, n⟩], [] => some ⟨[], .v (.arr 32 (.int .i64)) (scaleF f n), [], []⟩
  | _, _ => none
def G35 := addG G34 35 sp35
def P35 (f : List Int) (n : Int) : Prop :=
  bif decide (n < (1 : Int)) then f = scaleF f n else ∃ (x : Nat), ((n = n ∧ (0 : Nat) = (0 : Nat) ∧ (0 : Nat) = (0 : Nat) ∧ f = f ∧ (0 : Int) = (↑x : Int) ∧ f = List.take x (scaleF f n) ++ List.drop x f ∧ false = false ∧
  (0 : Int) :: List.replicate (nat_lit 31) (0 : Int) = List.replicate (32 : Nat) (0 : Int) ∧ false = false) ∧ x ≤ (32 : Nat)) ∧ ∀ (x : Nat), x ≤ (32 : Nat) → (IntKind.min IntKind.i64 ≤ (↑x : Int) ∧ (↑x : Int) ≤ IntKind.max
  IntKind.i64 ∧ ∀ (y : List Int), List.Mem y [List.take x (scaleF f n) ++ List.drop x f] → List.length y = (32 : Nat) ∧ ∀ (y_1 : Int), List.Mem y_1 y → IntKind.min IntKind.i64 ≤ y_1 ∧ y_1 ≤ IntKind.max IntKind.i64) → bif
  decide ((↑x : Int) < (32 : Int)) then ((0 : Int) ≤ (↑x : Int) ∧ (↑x : Int) < (↑(32 : Nat) : Int)) ∧ ((4 : Int) ≠ (0 : Int) ∧ ((0 : Int) ≤ (↑x : Int) ∧ (↑x : Int) < (↑(32 : Nat) : Int)) ∧ Int.toNat (↑x : Int) < (32 : Nat))
  ∧ bif decide (n < (4 : Int)) then (((0 : Int) ≤ (↑x : Int) ∧ (↑x : Int) < (↑(32 : Nat) : Int)) ∧ Int.toNat (↑x : Int) < (32 : Nat) ∧ (4 : Int) ≠ (0 : Int) ∧ (4 : Int) ≠ (0 : Int) ∧ ((0 : Int) ≤ (↑x : Int) ∧ (↑x : Int) <
  (↑(32 : Nat) : Int)) ∧ Int.toNat (↑x : Int) < (32 : Nat)) ∧ ∃ (y : Nat), (n = n ∧ (0 : Nat) = (0 : Nat) ∧ (0 : Nat) = (0 : Nat) ∧ f = f ∧ IntKind.wrap IntKind.i64 ((↑x : Int) + (1 : Int)) = (↑y : Int) ∧ List.set (List.set
  (List.take x (scaleF f n) ++ List.drop x f) (Int.toNat (↑x : Int)) (IntKind.wrap IntKind.i64 (max (IntKind.wrap IntKind.i64 ((4 : Int) - n)) (0 : Int) * IntKind.wrap IntKind.i64 (Int.tdiv (List.getD f (Int.toNat (↑x :
  Int)) (0 : Int)) (4 : Int))))) (Int.toNat (↑x : Int)) (IntKind.wrap IntKind.i64 (List.getD (List.set (List.take x (scaleF f n) ++ List.drop x f) (Int.toNat (↑x : Int)) (IntKind.wrap IntKind.i64 (max (IntKind.wrap
  IntKind.i64 ((4 : Int) - n)) (0 : Int) * IntKind.wrap IntKind.i64 (Int.tdiv (List.getD f (Int.toNat (↑x : Int)) (0 : Int)) (4 : Int))))) (Int.toNat (↑x : Int)) (0 : Int) + IntKind.wrap IntKind.i64 (Int.tdiv (IntKind.wrap
  IntKind.i64 (IntKind.wrap IntKind.i64 ((4 : Int) - n) * Int.tmod (List.getD f (Int.toNat (↑x : Int)) (0 : Int)) (4 : Int))) (4 : Int)))) = List.take y (scaleF f n) ++ List.drop y f ∧ false = false ∧ (0 : Int) ::
  List.replicate (nat_lit 31) (0 : Int) = List.replicate (32 : Nat) (0 : Int) ∧ false = false) ∧ y ≤ (32 : Nat) ∧ (32 : Nat) - y < (32 : Nat) - x else ∃ (y : Nat), (n = n ∧ (0 : Nat) = (0 : Nat) ∧ (0 : Nat) = (0 : Nat) ∧ f
  = f ∧ IntKind.wrap IntKind.i64 ((↑x : Int) + (1 : Int)) = (↑y : Int) ∧ List.set (List.take x (scaleF f n) ++ List.drop x f) (Int.toNat (↑x : Int)) (IntKind.wrap IntKind.i64 (max (IntKind.wrap IntKind.i64 ((4 : Int) - n))
  (0 : Int) * IntKind.wrap IntKind.i64 (Int.tdiv (List.getD f (Int.toNat (↑x : Int)) (0 : Int)) (4 : Int)))) = List.take y (scaleF f n) ++ List.drop y f ∧ false = false ∧ (0 : Int) :: List.replicate (nat_lit 31) (0 : Int) =
  List.replicate (32 : Nat) (0 : Int) ∧ false = false) ∧ y ≤ (32 : Nat) ∧ (32 : Nat) - y < (32 : Nat) - x else List.append (List.take x (scaleF f n)) (List.drop x f) = scaleF f n
theorem vc35 (f : List Int) (n : Int) : P35 f n = vcFun C35 (ann35 f n) Go.Proofs.Try.f35 [⟨.arr 32 (.int .i64), f⟩, ⟨.int .i64, n⟩] [] ⟨[], .v (.arr 32 (.int .i64)) (scaleF f n), [], []⟩ := by kernel_rfl

noncomputable def C84 : Ctx := ⟨Go.Proofs.Try.prog, D, G35, (fun _ _ => none), fun _ => []⟩
def ann84 (s : List Int × Int) (g : Bool × List Int) : Nat → St → Option Ann := fun _ _ => none
def sp84 : Spec := fun args ins => match args, ins with
  | [⟨.ref .ptr, .ptr 0 (.cons (.arr 32 (.int .i64)) (.last (.int .i64))) [0]⟩, ⟨.cons .bool (.last (.arr 32 (.int .i64))), g⟩], [⟨false, true, .cons (.arr 32 (.int .i64)) (.last (.int .i64)), [s]⟩] => some ⟨[], .v (.arr 32 (.int .i64)) (frameF (nextF s g)), [(0, some ⟨false, true, .cons (.arr 32 (.int .i64)) (.last (.int .i64)), [nextF s g]⟩)], []⟩
  | _, _ => none
def G84 := addG G35 84 sp84
def P84 (s : List Int × Int) (g : Bool × List Int) : Prop :=
  bif Prod.fst g then scaleF (Prod.snd g) (0 : Int) = frameF (nextF s g) ∧ Prod.snd g = Prod.fst (nextF s g) ∧ (0 : Int) = Prod.snd (nextF s g) ∧ false = false else scaleF (Prod.fst s) (IntKind.wrap IntKind.i64 (Prod.snd s
  + (1 : Int))) = frameF (nextF s g) ∧ Prod.fst s = Prod.fst (nextF s g) ∧ IntKind.wrap IntKind.i64 (Prod.snd s + (1 : Int)) = Prod.snd (nextF s g) ∧ false = false
theorem vc84 (s : List Int × Int) (g : Bool × List Int) : P84 s g = vcFun C84 (ann84 s g) Go.Proofs.Try.f84 [⟨.ref .ptr, .ptr 0 (.cons (.arr 32 (.int .i64)) (.last (.int .i64))) [0]⟩, ⟨.cons .bool (.last (.arr 32 (.int .i64))), g⟩] [⟨false, true, .cons (.arr 32 (.int .i64)) (.last (.int .i64)), [s]⟩] ⟨[], .v (.arr 32 (.int .i64)) (frameF (nextF s g)), [(0, some ⟨false, true, .cons (.arr 32 (.int .i64)) (.last (.int .i64)), [nextF s g]⟩)], []⟩ := by kernel_rfl

noncomputable def C33 : Ctx := ⟨Go.Proofs.Try.prog, D, G84, (fun _ _ => none), fun _ => []⟩
def ann33 (n : Nat) (xs : List (Bool × List Int)) : Nat → St → Option Ann := fun _ _ => some ⟨Nat, [3, 10, 11], [0], fun k => [(12, .v (.int .i64) (k : Int)), (4, .v (.ref .slice) (.slice 2 (.arr 32 (.int .i64)) [] 0 k))], fun k => [(1, some ⟨false, true, .cons (.arr 32 (.int .i64)) (.last (.int .i64)), [stateF (xs.take k)]⟩), (2, some ⟨false, false, .arr 32 (.int .i64), (fillF (zero32, 0) xs).take k⟩)], fun k => k ≤ xs.length, fun k => xs.length - k⟩
def sp33 : Spec := fun args ins => match args, ins with
  | [⟨.ref .slice, .slice 0 (.cons .bool (.last (.arr 32 (.int .i64)))) [] 0 n⟩], [⟨false, false, .cons .bool (.last (.arr 32 (.int .i64))), xs⟩] => some ⟨[n = xs.length, n ≤ 1000], .v (.ref .slice) (.slice 1 (.arr 32 (.int .i64)) [] 0 n), [], [⟨false, false, .arr 32 (.int .i64), fillF (zero32, 0) xs⟩]⟩
  | _, _ => none
def G33 := addG G84 33 sp33
def P33 (n : Nat) (xs : List (Bool × List Int)) : Prop :=
  ∃ (x : Nat), (((0 : Nat) = (0 : Nat) ∧ x = (0 : Nat) ∧ (0 : Nat) = (0 : Nat) ∧ n = n ∧ (↑n : Int) = (↑n : Int) ∧ (0 : Int) = (↑x : Int) ∧ xs = xs ∧ false = false ∧ List.replicate (32 : Nat) (0 : Int) = Prod.fst (stateF
  (List.take x xs)) ∧ (0 : Int) = Prod.snd (stateF (List.take x xs)) ∧ false = false ∧ List.take x (fillF (zero32, (0 : Int)) xs) = []) ∧ x ≤ List.length xs) ∧ ∀ (x : Nat), x ≤ List.length xs → (IntKind.min IntKind.i64 ≤
  (↑x : Int) ∧ (↑x : Int) ≤ IntKind.max IntKind.i64 ∧ (∀ (y : List Int × Int), List.Mem y [stateF (List.take x xs)] → List.length (Prod.fst y) = (32 : Nat) ∧ (∀ (y_1 : Int), List.Mem y_1 (Prod.fst y) → IntKind.min
  IntKind.i64 ≤ y_1 ∧ y_1 ≤ IntKind.max IntKind.i64) ∧ IntKind.min IntKind.i64 ≤ Prod.snd y ∧ Prod.snd y ≤ IntKind.max IntKind.i64) ∧ ∀ (y : List Int), List.Mem y (List.take x (fillF (zero32, (0 : Int)) xs)) → List.length y
  = (32 : Nat) ∧ ∀ (y_1 : Int), List.Mem y_1 y → IntKind.min IntKind.i64 ≤ y_1 ∧ y_1 ≤ IntKind.max IntKind.i64) → bif decide ((↑x : Int) < (↑n : Int)) then (((0 : Int) ≤ (↑x : Int) ∧ (↑x : Int) < (↑n : Int)) ∧ (0 : Nat) +
  Int.toNat (↑x : Int) < List.length xs) ∧ ((1 : Nat) ≤ (1 : Nat) ∧ (0 : Nat) + x = List.length (List.take x (fillF (zero32, (0 : Int)) xs)) ∧ (x + List.length (seg (frameF (nextF (stateF (List.take x xs)) (Prod.fst
  (List.getD xs ((0 : Nat) + Int.toNat (↑x : Int)) (false, List.replicate (32 : Nat) (0 : Int))), Prod.snd (List.getD xs ((0 : Nat) + Int.toNat (↑x : Int)) (false, List.replicate (32 : Nat) (0 : Int))))) :: List.replicate
  (nat_lit 0) (List.replicate (32 : Nat) (0 : Int))) (0 : Nat) (1 : Nat))) * (256 : Nat) ≤ (70368744177664 : Nat)) ∧ ∃ (y : Nat), ((0 : Nat) = (0 : Nat) ∧ (0 : Nat) = (0 : Nat) ∧ x + List.length (seg (frameF (nextF (stateF
  (List.take x xs)) (Prod.fst (List.getD xs ((0 : Nat) + Int.toNat (↑x : Int)) (false, List.replicate (32 : Nat) (0 : Int))), Prod.snd (List.getD xs ((0 : Nat) + Int.toNat (↑x : Int)) (false, List.replicate (32 : Nat) (0 :
  Int))))) :: List.replicate (nat_lit 0) (List.replicate (32 : Nat) (0 : Int))) (0 : Nat) (1 : Nat)) = y ∧ (0 : Nat) = (0 : Nat) ∧ n = n ∧ (↑n : Int) = (↑n : Int) ∧ IntKind.wrap IntKind.i64 ((↑x : Int) + (1 : Int)) = (↑y :
  Int) ∧ xs = xs ∧ false = false ∧ Prod.fst (nextF (stateF (List.take x xs)) (Prod.fst (List.getD xs ((0 : Nat) + Int.toNat (↑x : Int)) (false, List.replicate (32 : Nat) (0 : Int))), Prod.snd (List.getD xs ((0 : Nat) +
  Int.toNat (↑x : Int)) (false, List.replicate (32 : Nat) (0 : Int))))) = Prod.fst (stateF (List.take y xs)) ∧ Prod.snd (nextF (stateF (List.take x xs)) (Prod.fst (List.getD xs ((0 : Nat) + Int.toNat (↑x : Int)) (false,
  List.replicate (32 : Nat) (0 : Int))), Prod.snd (List.getD xs ((0 : Nat) + Int.toNat (↑x : Int)) (false, List.replicate (32 : Nat) (0 : Int))))) = Prod.snd (stateF (List.take y xs)) ∧ false = false ∧ List.append
  (List.drop (0 : Nat) (List.take x (fillF (zero32, (0 : Int)) xs))) (seg (frameF (nextF (stateF (List.take x xs)) (Prod.fst (List.getD xs ((0 : Nat) + Int.toNat (↑x : Int)) (false, List.replicate (32 : Nat) (0 : Int))),
  Prod.snd (List.getD xs ((0 : Nat) + Int.toNat (↑x : Int)) (false, List.replicate (32 : Nat) (0 : Int))))) :: List.replicate (nat_lit 0) (List.replicate (32 : Nat) (0 : Int))) (0 : Nat) (1 : Nat)) = List.take y (fillF
  (zero32, (0 : Int)) xs) ∧ false = false) ∧ y ≤ List.length xs ∧ List.length xs - y < List.length xs - x else (0 : Nat) = (0 : Nat) ∧ x = n ∧ xs = xs ∧ false = false ∧ List.take x (fillF (zero32, (0 : Int)) xs) = fillF
  (zero32, (0 : Int)) xs ∧ false = false
theorem vc33 (n : Nat) (xs : List (Bool × List Int)) : P33 n xs = vcFun C33 (ann33 n xs) Go.Proofs.Try.f33 [⟨.ref .slice, .slice 0 (.cons .bool (.last (.arr 32 (.int .i64)))) [] 0 n⟩] [⟨false, false, .cons .bool (.last (.arr 32 (.int .i64))), xs⟩] ⟨[n = xs.length, n ≤ 1000], .v (.ref .slice) (.slice 1 (.arr 32 (.int .i64)) [] 0 n), [], [⟨false, false, .arr 32 (.int .i64), fillF (zero32, 0) xs⟩]⟩ := by kernel_rfl

noncomputable def C32 : Ctx := ⟨Go.Proofs.Try.prog, D, G33, (fun _ _ => none), fun _ => []⟩
def ann32 (n : Nat) (xs : List (Bool × List Int)) : Nat → St → Option Ann := fun id S => match id with | 0 => some ⟨Nat, [0], [0], fun k => [(4, .v (.int .i64) (k : Int)), (3, .v (.ref .slice) (.slice 1 (.cons .bool (.last (.arr 32 (.int .i64)))) [] 0 k))], fun k => [(1, some ⟨false, false, .cons .bool (.last (.arr 32 (.int .i64))), (heldF xs).take k⟩)], fun k => k ≤ (heldF xs).length, fun k => (heldF xs).length - k⟩ | _ => some ⟨Nat, [0, 3, 4, 5], [0, 1], fun j => [(6, .v (.int .i64) (j : Int))], fun j => [(2, some ⟨false, true, .cons .bool (.last (.arr 32 (.int .i64))), [((S.x 2 (.cons .bool (.last (.arr 32 (.int .i64))))).1, ((S.x 2 (.cons .bool (.last (.arr 32 (.int .i64))))).2.map remF).take j ++ (S.x 2 (.cons .bool (.last (.arr 32 (.int .i64))))).2.drop j)]⟩)], fun j => j ≤ 32, fun j => 32 - j⟩
def sp32 : Spec := fun args ins => match args, ins with
  | [⟨.ref .slice, .slice 0 (.cons .bool (.last (.arr 32 (.int .i64)))) [] 0 n⟩], [⟨true, false, .cons .bool (.last (.arr 32 (.int .i64))), xs⟩] => some ⟨[n = xs.length], .v (.ref .slice) (.slice 1 (.cons .bool (.last (.arr 32 (.int .i64)))) [] 0 (heldF xs).length), [], [⟨false, false, .cons .bool (.last (.arr 32 (.int .i64))), heldF xs⟩]⟩
  | _, _ => none
def G32 := addG G33 32 sp32
def P32 (n : Nat) (xs : List (Bool × List Int)) : Prop :=
  ∃ (x : Nat), (((0 : Nat) = (0 : Nat) ∧ n = n ∧ x = (0 : Nat) ∧ (0 : Int) = (↑x : Int) ∧ xs = xs ∧ true = true ∧ List.take x (heldF xs) = []) ∧ x ≤ List.length (heldF xs)) ∧ ∀ (x : Nat), x ≤ List.length (heldF xs) →
  (IntKind.min IntKind.i64 ≤ (↑x : Int) ∧ (↑x : Int) ≤ IntKind.max IntKind.i64 ∧ ∀ (y : Bool × List Int), List.Mem y (List.take x (heldF xs)) → List.length (Prod.snd y) = (32 : Nat) ∧ ∀ (y_1 : Int), List.Mem y_1 (Prod.snd
  y) → IntKind.min IntKind.i64 ≤ y_1 ∧ y_1 ≤ IntKind.max IntKind.i64) → ∀ (b : Bool), decide ((↑x : Int) < (↑n : Int)) = b → ((b = true → b = true) ∧ (b = true → b = true)) ∧ bif bif b then decide ((↑x : Int) < (100 : Int))
  else false then (((0 : Int) ≤ (↑x : Int) ∧ (↑x : Int) < (↑n : Int)) ∧ (0 : Nat) + Int.toNat (↑x : Int) < List.length xs) ∧ ∃ (x_1 : Nat), (((0 : Nat) = (0 : Nat) ∧ n = n ∧ (0 : Nat) = (0 : Nat) ∧ x = x ∧ (↑x : Int) = (↑x
  : Int) ∧ (0 : Nat) = (0 : Nat) ∧ (0 : Int) = (↑x_1 : Int) ∧ xs = xs ∧ true = true ∧ List.take x (heldF xs) = List.take x (heldF xs) ∧ false = false ∧ Prod.fst (List.getD xs ((0 : Nat) + Int.toNat (↑x : Int)) (false,
  List.replicate (32 : Nat) (0 : Int))) = Prod.fst (List.getD xs ((0 : Nat) + Int.toNat (↑x : Int)) (false, List.replicate (32 : Nat) (0 : Int))) ∧ Prod.snd (List.getD xs ((0 : Nat) + Int.toNat (↑x : Int)) (false,
  List.replicate (32 : Nat) (0 : Int))) = List.take x_1 (List.map remF (Prod.snd (List.getD xs ((0 : Nat) + Int.toNat (↑x : Int)) (false, List.replicate (32 : Nat) (0 : Int))))) ++ List.drop x_1 (Prod.snd (List.getD xs ((0
  : Nat) + Int.toNat (↑x : Int)) (false, List.replicate (32 : Nat) (0 : Int)))) ∧ false = false) ∧ x_1 ≤ (32 : Nat)) ∧ ∀ (x_2 : Nat), x_2 ≤ (32 : Nat) → (IntKind.min IntKind.i64 ≤ (↑x_2 : Int) ∧ (↑x_2 : Int) ≤ IntKind.max
  IntKind.i64 ∧ ∀ (y : Bool × List Int), List.Mem y [(Prod.fst (List.getD xs ((0 : Nat) + Int.toNat (↑x : Int)) (false, List.replicate (32 : Nat) (0 : Int))), List.take x_2 (List.map remF (Prod.snd (List.getD xs ((0 : Nat)
  + Int.toNat (↑x : Int)) (false, List.replicate (32 : Nat) (0 : Int))))) ++ List.drop x_2 (Prod.snd (List.getD xs ((0 : Nat) + Int.toNat (↑x : Int)) (false, List.replicate (32 : Nat) (0 : Int)))))] → List.length (Prod.snd
  y) = (32 : Nat) ∧ ∀ (y_1 : Int), List.Mem y_1 (Prod.snd y) → IntKind.min IntKind.i64 ≤ y_1 ∧ y_1 ≤ IntKind.max IntKind.i64) → bif decide ((↑x_2 : Int) < (32 : Int)) then (((0 : Int) ≤ (↑x_2 : Int) ∧ (↑x_2 : Int) < (↑(32 :
  Nat) : Int)) ∧ Int.toNat (↑x_2 : Int) < (32 : Nat) ∧ (1099511627776 : Int) ≠ (0 : Int) ∧ ((0 : Int) ≤ (↑x_2 : Int) ∧ (↑x_2 : Int) < (↑(32 : Nat) : Int)) ∧ Int.toNat (↑x_2 : Int) < (32 : Nat)) ∧ ∃ (y : Nat), ((0 : Nat) =
  (0 : Nat) ∧ n = n ∧ (0 : Nat) = (0 : Nat) ∧ x = x ∧ (↑x : Int) = (↑x : Int) ∧ (0 : Nat) = (0 : Nat) ∧ IntKind.wrap IntKind.i64 ((↑x_2 : Int) + (1 : Int)) = (↑y : Int) ∧ xs = xs ∧ true = true ∧ List.take x (heldF xs) =
  List.take x (heldF xs) ∧ false = false ∧ Prod.fst (List.getD xs ((0 : Nat) + Int.toNat (↑x : Int)) (false, List.replicate (32 : Nat) (0 : Int))) = Prod.fst (List.getD xs ((0 : Nat) + Int.toNat (↑x : Int)) (false,
  List.replicate (32 : Nat) (0 : Int))) ∧ List.set (List.take x_2 (List.map remF (Prod.snd (List.getD xs ((0 : Nat) + Int.toNat (↑x : Int)) (false, List.replicate (32 : Nat) (0 : Int))))) ++ List.drop x_2 (Prod.snd
  (List.getD xs ((0 : Nat) + Int.toNat (↑x : Int)) (false, List.replicate (32 : Nat) (0 : Int))))) (Int.toNat (↑x_2 : Int)) (Int.tmod (List.getD (List.take x_2 (List.map remF (Prod.snd (List.getD xs ((0 : Nat) + Int.toNat
  (↑x : Int)) (false, List.replicate (32 : Nat) (0 : Int))))) ++ List.drop x_2 (Prod.snd (List.getD xs ((0 : Nat) + Int.toNat (↑x : Int)) (false, List.replicate (32 : Nat) (0 : Int))))) (Int.toNat (↑x_2 : Int)) (0 : Int))
  (1099511627776 : Int)) = List.take y (List.map remF (Prod.snd (List.getD xs ((0 : Nat) + Int.toNat (↑x : Int)) (false, List.replicate (32 : Nat) (0 : Int))))) ++ List.drop y (Prod.snd (List.getD xs ((0 : Nat) + Int.toNat
  (↑x : Int)) (false, List.replicate (32 : Nat) (0 : Int)))) ∧ false = false) ∧ y ≤ (32 : Nat) ∧ (32 : Nat) - y < (32 : Nat) - x_2 else ((1 : Nat) ≤ (1 : Nat) ∧ (0 : Nat) + x = List.length (List.take x (heldF xs)) ∧ (x +
  List.length (seg ((Prod.fst (List.getD xs ((0 : Nat) + Int.toNat (↑x : Int)) (false, List.replicate (32 : Nat) (0 : Int))), List.take x_2 (List.map remF (Prod.snd (List.getD xs ((0 : Nat) + Int.toNat (↑x : Int)) (false,
  List.replicate (32 : Nat) (0 : Int))))) ++ List.drop x_2 (Prod.snd (List.getD xs ((0 : Nat) + Int.toNat (↑x : Int)) (false, List.replicate (32 : Nat) (0 : Int))))) :: List.replicate (nat_lit 0) (false, List.replicate (32
  : Nat) (0 : Int))) (0 : Nat) (1 : Nat))) * (264 : Nat) ≤ (70368744177664 : Nat)) ∧ ∃ (y : Nat), ((0 : Nat) = (0 : Nat) ∧ n = n ∧ (0 : Nat) = (0 : Nat) ∧ x + List.length (seg ((Prod.fst (List.getD xs ((0 : Nat) + Int.toNat
  (↑x : Int)) (false, List.replicate (32 : Nat) (0 : Int))), List.take x_2 (List.map remF (Prod.snd (List.getD xs ((0 : Nat) + Int.toNat (↑x : Int)) (false, List.replicate (32 : Nat) (0 : Int))))) ++ List.drop x_2 (Prod.snd
  (List.getD xs ((0 : Nat) + Int.toNat (↑x : Int)) (false, List.replicate (32 : Nat) (0 : Int))))) :: List.replicate (nat_lit 0) (false, List.replicate (32 : Nat) (0 : Int))) (0 : Nat) (1 : Nat)) = y ∧ IntKind.wrap
  IntKind.i64 ((↑x : Int) + (1 : Int)) = (↑y : Int) ∧ xs = xs ∧ true = true ∧ List.append (List.drop (0 : Nat) (List.take x (heldF xs))) (seg ((Prod.fst (List.getD xs ((0 : Nat) + Int.toNat (↑x : Int)) (false,
  List.replicate (32 : Nat) (0 : Int))), List.take x_2 (List.map remF (Prod.snd (List.getD xs ((0 : Nat) + Int.toNat (↑x : Int)) (false, List.replicate (32 : Nat) (0 : Int))))) ++ List.drop x_2 (Prod.snd (List.getD xs ((0 :
  Nat) + Int.toNat (↑x : Int)) (false, List.replicate (32 : Nat) (0 : Int))))) :: List.replicate (nat_lit 0) (false, List.replicate (32 : Nat) (0 : Int))) (0 : Nat) (1 : Nat)) = List.take y (heldF xs) ∧ false = false) ∧ y ≤
  List.length (heldF xs) ∧ List.length (heldF xs) - y < List.length (heldF xs) - x else (0 : Nat) = (0 : Nat) ∧ x = List.length (heldF xs) ∧ xs = xs ∧ true = true ∧ List.take x (heldF xs) = heldF xs ∧ false = false
theorem vc32 (n : Nat) (xs : List (Bool × List Int)) : P32 n xs = vcFun C32 (ann32 n xs) Go.Proofs.Try.f32 [⟨.ref .slice, .slice 0 (.cons .bool (.last (.arr 32 (.int .i64)))) [] 0 n⟩] [⟨true, false, .cons .bool (.last (.arr 32 (.int .i64))), xs⟩] ⟨[n = xs.length], .v (.ref .slice) (.slice 1 (.cons .bool (.last (.arr 32 (.int .i64)))) [] 0 (heldF xs).length), [], [⟨false, false, .cons .bool (.last (.arr 32 (.int .i64))), heldF xs⟩]⟩ := by kernel_rfl

end Go.SL.A

namespace Go.SL.A
open Go Go.SL Go.SL.S

theorem pure34 (x : Int) : P34 x := rfl

theorem scale1_eq {n x : Int} (h1 : 1 ≤ n) (h2 : n ≤ 9223372036854775807) (hx1 : -9223372036854775808 ≤ x) (hx2 : x ≤ 9223372036854775807) :
    IntKind.i64.wrap (max (IntKind.i64.wrap (4 - n)) 0 * IntKind.i64.wrap (x.tdiv 4)) = max (4 - n) 0 * x.tdiv 4 ∧
    (n < 4 → IntKind.i64.wrap (max (4 - n) 0 * x.tdiv 4 + IntKind.i64.wrap ((IntKind.i64.wrap (IntKind.i64.wrap (4 - n) * x.tmod 4)).tdiv 4)) = scale1 n x) := by
  have e1 : IntKind.i64.wrap (4 - n) = 4 - n := w64 (by omega) (by omega)
  have d1 := tdm x (k := 4) (by decide)
  have e2 : IntKind.i64.wrap (x.tdiv 4) = x.tdiv 4 := w64 (by omega) (by omega)
  rw [e1, e2]
  have hn : n = 1 ∨ n = 2 ∨ n = 3 ∨ 4 ≤ n := by omega
  unfold scale1
  generalize x.tdiv 4 = q at *
  generalize x.tmod 4 = r at *
  have part : ∀ m : Int, 1 ≤ m → m ≤ 3 → IntKind.i64.wrap (m * q) = m * q ∧ IntKind.i64.wrap (m * q + IntKind.i64.wrap ((IntKind.i64.wrap (m * r)).tdiv 4)) = m * q + (m * r).tdiv 4 := by
    intro m h1 h2
    have hm : m = 1 ∨ m = 2 ∨ m = 3 := by omega
    rcases hm with rfl | rfl | rfl
    all_goals
      refine ⟨w64 (by omega) (by omega), ?_⟩
      rw [w64 (n := _ * r) (by omega) (by omega)]
    · have d2 := tdm (1 * r) (k := 4) (by decide)
      rw [w64 (n := (1 * r).tdiv 4) (by omega) (by omega), w64 (by omega) (by omega)]
    · have d2 := tdm (2 * r) (k := 4) (by decide)
      rw [w64 (n := (2 * r).tdiv 4) (by omega) (by omega), w64 (by omega) (by omega)]
    · have d2 := tdm (3 * r) (k := 4) (by decide)
      rw [w64 (n := (3 * r).tdiv 4) (by omega) (by omega), w64 (by omega) (by omega)]
  rcases Int.lt_or_le n 4 with h | h
  · have : max (4 - n) 0 = 4 - n := by omega
    rw [this]
    obtain ⟨k1, k2⟩ := part (4 - n) (by omega) (by omega)
    exact ⟨k1, fun _ => by rw [k2]; simp [h]⟩
  · have : max (4 - n) 0 = 0 := by omega
    rw [this]
    exact ⟨by simp; decide, fun h' => by omega⟩

theorem pure35 (f : List Int) (n : Int) (hl : f.length = 32) (hf : ∀ y ∈ f, -9223372036854775808 ≤ y ∧ y ≤ 9223372036854775807) (hn : n ≤ 9223372036854775807) : P35 f n := by
  unfold P35
  by_cases h : n < 1
  · simp [h, scaleF]
  · have hS : scaleF f n = f.map (scale1 n) := by simp [scaleF, h]
    simp only [h, decide_false, cond_false, hS]
    refine ⟨0, ⟨⟨trivial, trivial, trivial, trivial, rfl, by simp, trivial, rfl, trivial⟩, by omega⟩, fun x hx _ => ?_⟩
    by_cases hx2 : (x : Int) < 32
    · have hxn : x < f.length := by omega
      have hm := hf _ (getD_mem (d := 0) hxn)
      obtain ⟨e1, e2⟩ := scale1_eq (n := n) (by omega) hn hm.1 hm.2
      have hget : (f.map (scale1 n))[x]? = some (scale1 n (f.getD x 0)) := by simp [hxn]
      have hwx : IntKind.i64.wrap ((x : Int) + 1) = ((x + 1 : Nat) : Int) := by rw [w64 (by omega) (by omega)]; simp
      have hlt : (f.map (scale1 n)).length = 32 := by simp [hl]
      simp only [hx2, decide_true, cond_true, Int.toNat_natCast, e1]
      refine ⟨by omega, by omega, ?_⟩
      by_cases h4 : n < 4
      · simp only [h4, decide_true, cond_true]
        refine ⟨by omega, x + 1, ⟨trivial, trivial, trivial, trivial, hwx, ?_, trivial, rfl, trivial⟩, by omega, by omega⟩
        have hgs : (List.set (List.take x (f.map (scale1 n)) ++ List.drop x f) x (max (4 - n) 0 * (f.getD x 0).tdiv 4)).getD x 0 = max (4 - n) 0 * (f.getD x 0).tdiv 4 := by
          simp [List.getD_eq_getElem?_getD]
          rw [List.getElem?_set_self (by simp; omega)]; rfl
        rw [hgs, e2 h4, List.set_set]
        exact set_step (by omega) hxn hget
      · simp only [h4, decide_false, cond_false]
        refine ⟨x + 1, ⟨trivial, trivial, trivial, trivial, hwx, ?_, trivial, rfl, trivial⟩, by omega, by omega⟩
        have : max (4 - n) 0 * (f.getD x 0).tdiv 4 = scale1 n (f.getD x 0) := by simp [scale1, h4]
        rw [this]
        exact set_step (by omega) hxn hget
    · have : x = 32 := by omega
      subst this
      simp only [hx2, decide_false, cond_false]
      show List.take 32 _ ++ List.drop 32 f = _
      rw [List.drop_eq_nil_of_le (by omega), List.append_nil, List.take_of_length_le (by simp [hl])]

theorem snd34 : Sound Go.Proofs.Try.prog G34 := snd00.add ⟨_, Go.Proofs.Try.func34, by kernel_rfl, by kernel_rfl⟩ (by
  intro args ins out h hp
  unfold sp34 at h
  split at h
  · rename_i x
    cases h
    exact vcFun_ok (C := C34) good snd00 Meth.none mix Go.Proofs.Try.func34 (ann34 x) (fun hw => (vc34 x) ▸ pure34 x)
  · cases h)

theorem snd35 : Sound Go.Proofs.Try.prog G35 := snd34.add ⟨_, Go.Proofs.Try.func35, by kernel_rfl, by kernel_rfl⟩ (by
  intro args ins out h hp
  unfold sp35 at h
  split at h
  · rename_i f n
    cases h
    refine vcFun_ok (C := C35) good snd34 Meth.none mix Go.Proofs.Try.func35 (ann35 f n) (fun hw => ?_)
    have hw : (List.length f = 32 ∧ ∀ y ∈ (f : List Int), IntKind.i64.min ≤ y ∧ y ≤ IntKind.i64.max) ∧ IntKind.i64.min ≤ n ∧ n ≤ IntKind.i64.max := by
      simpa [Ty.wf, allP, and_assoc] using hw
    rw [i64min, i64max] at hw
    exact (vc35 f n) ▸ pure35 f n hw.1.1 hw.1.2 hw.2.2
  · cases h)

end Go.SL.A

namespace Go.SL.A
open Go Go.SL Go.SL.S

theorem pure84 (s : List Int × Int) (g : Bool × List Int) : P84 s g := by
  unfold P84
  obtain ⟨ok, f⟩ := g
  cases ok <;> simp [nextF, frameF]

theorem fillF_len : ∀ (xs : List (Bool × List Int)) (s : List Int × Int), (fillF s xs).length = xs.length
  | [], s => rfl
  | g :: xs, s => by simp [fillF, fillF_len xs]

theorem fillF_get : ∀ (xs : List (Bool × List Int)) (s : List Int × Int) (k : Nat) (d : Bool × List Int), k < xs.length → (fillF s xs)[k]? = some (frameF (nextF ((xs.take k).foldl nextF s) (xs.getD k d)))
  | [], s, k, d, h => by simp at h
  | g :: xs, s, 0, d, h => by simp [fillF]
  | g :: xs, s, k + 1, d, h => by
    have := fillF_get xs (nextF s g) k d (by simpa using h)
    simpa [fillF] using this

theorem take_snoc {α : Type} {l : List α} {k : Nat} {v : α} (h : l[k]? = some v) : l.take (k + 1) = l.take k ++ [v] := by
  rw [List.take_add_one, h]; rfl

theorem getD_some {α : Type} {l : List α} {k : Nat} {d : α} (h : k < l.length) : l[k]? = some (l.getD k d) := by simp [h]

theorem seg_one {α : Type} (x y : α) : seg (x :: List.replicate 0 y) 0 1 = [x] := rfl

theorem stateF_snoc {xs : List (Bool × List Int)} {k : Nat} (d : Bool × List Int) (h : k < xs.length) : stateF (xs.take (k + 1)) = nextF (stateF (xs.take k)) (xs.getD k d) := by
  rw [take_snoc (getD_some (d := d) h)]
  simp [stateF]

theorem pure33 (n : Nat) (xs : List (Bool × List Int)) (hn : n = xs.length) (h1 : n ≤ 1000) : P33 n xs := by
  subst hn
  unfold P33
  simp only [Int.toNat_natCast, Nat.zero_add, seg_one, List.length_singleton, eq_self, true_and, and_true]
  refine ⟨0, ⟨⟨rfl, rfl, by simp [stateF, zero32], by simp [stateF], by simp⟩, by omega⟩, fun k hk _ => ?_⟩
  have hfl := fillF_len xs (zero32, 0)
  by_cases h : (k : Int) < (xs.length : Int)
  · have hk2 : k < xs.length := by omega
    simp only [h, decide_true, cond_true]
    have hw : IntKind.i64.wrap ((k : Int) + 1) = ((k + 1 : Nat) : Int) := by rw [w64 (by omega) (by omega)]; simp
    refine ⟨by simp [hk2], ⟨by omega, by rw [List.length_take, hfl]; omega, by omega⟩, k + 1, ⟨rfl, hw, ?_, ?_, ?_⟩, by omega, by omega⟩
    · rw [stateF_snoc (false, List.replicate 32 0) hk2]
    · rw [stateF_snoc (false, List.replicate 32 0) hk2]
    · show List.take k _ ++ [_] = _
      rw [take_snoc (fillF_get xs (zero32, 0) k (false, List.replicate 32 0) hk2)]
      rfl
  · have : k = xs.length := by omega
    subst this
    simp only [h, decide_false, cond_false]
    exact ⟨trivial, by rw [List.take_of_length_le (by omega)]⟩

theorem heldF_len (xs : List (Bool × List Int)) : (heldF xs).length = min 100 xs.length := by simp [heldF]

theorem heldF_get {xs : List (Bool × List Int)} {k : Nat} (d : Bool × List Int) (h : k < xs.length) (h2 : k < 100) : (heldF xs)[k]? = some ((xs.getD k d).1, (xs.getD k d).2.map remF) := by
  simp [heldF, h2, h]

theorem remF_fits (x : Int) : -1099511627776 < remF x ∧ remF x < 1099511627776 := by
  have := tdm x (k := 1099511627776) (by decide)
  unfold remF; omega

theorem pure32 (n : Nat) (xs : List (Bool × List Int)) (hn : n = xs.length) (hl : ∀ y ∈ xs, y.2.length = 32) : P32 n xs := by
  subst hn
  unfold P32
  simp only [Int.toNat_natCast, Nat.zero_add, seg_one, List.length_singleton, eq_self, true_and, and_true]
  have hhl := heldF_len xs
  refine ⟨0, ⟨⟨rfl, rfl, by simp⟩, by omega⟩, fun k hk _ => ?_⟩
  rintro _ rfl
  refine ⟨⟨fun h => h, fun h => h⟩, ?_⟩
  by_cases h1 : (k : Int) < (xs.length : Int)
  · by_cases h2 : (k : Int) < 100
    · have hk2 : k < xs.length := by omega
      simp only [h1, h2, decide_true, cond_true]
      have hw : IntKind.i64.wrap ((k : Int) + 1) = ((k + 1 : Nat) : Int) := by rw [w64 (by omega) (by omega)]; simp
      have hgl := hl _ (getD_mem (d := (false, List.replicate 32 (0 : Int))) hk2)
      have hget := heldF_get (false, List.replicate 32 (0 : Int)) hk2 (by omega)
      generalize xs.getD k (false, List.replicate 32 (0 : Int)) = g at *
      refine ⟨by simp [hk2], 0, ⟨⟨rfl, by simp⟩, by omega⟩, fun j hj _ => ?_⟩
      by_cases h3 : (j : Int) < 32
      · have hw2 : IntKind.i64.wrap ((j : Int) + 1) = ((j + 1 : Nat) : Int) := by rw [w64 (by omega) (by omega)]; simp
        simp only [h3, decide_true, cond_true]
        refine ⟨by simp; omega, j + 1, ⟨hw2, ?_⟩, by omega, by omega⟩
        have e : (List.take j (g.2.map remF) ++ List.drop j g.2).getD j 0 = g.2.getD j 0 := by
          have hj2 : j < g.2.length := by omega
          have hmin : min j g.2.length = j := by omega
          rw [List.getD_eq_getElem?_getD, List.getElem?_append_right (by simp; omega), List.getElem?_drop]
          simp [hmin]
        rw [e]
        exact set_step (by simp; omega) (by omega) (by simp [remF, show j < g.2.length by omega])
      · have : j = 32 := by omega
        subst this
        simp only [h3, decide_false, cond_false]
        have e : List.take 32 (g.2.map remF) ++ List.drop 32 g.2 = g.2.map remF := by
          rw [List.drop_eq_nil_of_le (by omega), List.append_nil, List.take_of_length_le (by simp [hgl])]
        rw [e]
        refine ⟨⟨by omega, by rw [List.length_take]; omega, by omega⟩, k + 1, ⟨rfl, hw, ?_⟩, by omega, by omega⟩
        show List.take k _ ++ [_] = _
        rw [take_snoc hget]
    · simp only [h1, h2, decide_true, decide_false, cond_true, cond_false]
      exact ⟨by omega, by rw [List.take_of_length_le (by omega)]⟩
  · simp only [h1, decide_false, cond_false]
    exact ⟨by omega, by rw [List.take_of_length_le (by omega)]⟩

theorem snd84 : Sound Go.Proofs.Try.prog G84 := snd35.add ⟨_, Go.Proofs.Try.func84, by kernel_rfl, by kernel_rfl⟩ (by
  intro args ins out h hp
  unfold sp84 at h
  split at h
  · rename_i g s
    cases h
    exact vcFun_ok (C := C84) good snd35 Meth.none mix Go.Proofs.Try.func84 (ann84 s g) (fun hw => (vc84 s g) ▸ pure84 s g)
  · cases h)

theorem snd33 : Sound Go.Proofs.Try.prog G33 := snd84.add ⟨_, Go.Proofs.Try.func33, by kernel_rfl, by kernel_rfl⟩ (by
  intro args ins out h hp
  unfold sp33 at h
  split at h
  · rename_i n xs
    cases h
    exact vcFun_ok (C := C33) good snd84 Meth.none mix Go.Proofs.Try.func33 (ann33 n xs) (fun hw => (vc33 n xs) ▸ pure33 n xs hp.1 hp.2)
  · cases h)

theorem snd32 : Sound Go.Proofs.Try.prog G32 := snd33.add ⟨_, Go.Proofs.Try.func32, by kernel_rfl, by kernel_rfl⟩ (by
  intro args ins out h hp
  unfold sp32 at h
  split at h
  · rename_i n xs
    cases h
    refine vcFun_ok (C := C32) good snd33 Meth.none mix Go.Proofs.Try.func32 (ann32 n xs) (fun hw => (vc32 n xs) ▸ pure32 n xs hp fun y hy => ?_)
    have hw : ∀ y ∈ (xs : List (Bool × List Int)), allP (Ty.wf (.cons .bool (.last (.arr 32 (.int .i64)))) y) := by
      simpa [Blk.wf, allP, Ty.wf] using hw
    have := hw y hy
    simp [Ty.wf, allP] at this
    exact this.1
  · cases h)

end Go.SL.A

/- Functions and what they are held to do: bound to their code. -/
namespace Go.SL.A
open Go Go.SL Go.SL.S
set_option maxRecDepth 100000
noncomputable def C31 : Ctx := ⟨Go.Proofs.Try.prog, D, G32, (fun _ _ => none), fun _ => []⟩
def ann31  : Nat → St → Option Ann := fun _ _ => none
def sp31 : Spec := fun args ins => match args, ins with
  | [], [] => some ⟨[], .v .bool true, [], []⟩
  | _, _ => none
def G31 := addG G32 31 sp31
def P31  : Prop :=
  ((3 : Nat) = (3 : Nat) ∧ (3 : Nat) ≤ (1000 : Nat)) ∧ ∀ (b : Bool), true = b → ∀ (b_1 : Bool), (bif b then true else false) = b_1 → ∀ (b_2 : Bool), (bif b_1 then true else false) = b_2 → ((b = true → b = true ∧ (0 : Int) ≤
  (0 : Int) ∧ (0 : Int) < (↑(3 : Nat) : Int)) ∧ (b = true → b = true ∧ (0 : Int) ≤ (0 : Int) ∧ (0 : Int) < (↑(32 : Nat) : Int)) ∧ (b = true → b = true ∧ (0 : Nat) < (3 : Nat) ∧ (0 : Nat) < (32 : Nat)) ∧ (b = true → b =
  true) ∧ (b = true → b = true) ∧ (b_1 = true → b_1 = true ∧ (0 : Int) ≤ (1 : Int) ∧ (1 : Int) < (↑(3 : Nat) : Int)) ∧ (b_1 = true → b_1 = true ∧ (0 : Int) ≤ (0 : Int) ∧ (0 : Int) < (↑(32 : Nat) : Int)) ∧ (b_1 = true → b_1
  = true ∧ (1 : Nat) < (3 : Nat) ∧ (0 : Nat) < (32 : Nat)) ∧ (b_1 = true → b_1 = true) ∧ (b_1 = true → b_1 = true) ∧ (b_2 = true → b_2 = true ∧ (0 : Int) ≤ (2 : Int) ∧ (2 : Int) < (↑(3 : Nat) : Int)) ∧ (b_2 = true → b_2 =
  true ∧ (0 : Int) ≤ (0 : Int) ∧ (0 : Int) < (↑(32 : Nat) : Int)) ∧ (b_2 = true → b_2 = true ∧ (2 : Nat) < (3 : Nat) ∧ (0 : Nat) < (32 : Nat)) ∧ (b_2 = true → b_2 = true) ∧ (b_2 = true → b_2 = true)) ∧ (bif b_2 then true
  else false) = true
theorem vc31 : P31  = vcFun C31 (ann31 ) Go.Proofs.Try.f31 [] [] ⟨[], .v .bool true, [], []⟩ := by kernel_rfl

noncomputable def C3 : Ctx := ⟨Go.Proofs.Try.prog, D, G31, (fun _ _ => none), fun _ => []⟩
def ann3 (n : Nat) (xs : List (Bool × List Int)) : Nat → St → Option Ann := fun id S => match id with | 0 => some ⟨Nat, [0, 3, 4, 5], [0, 1, 2], fun i => [(7, .v (.int .i64) (i : Int)), (6, .v (.int .i64) (stateF ((heldF xs).take i)).2)], fun i => [(3, some ⟨false, true, .arr 32 (.int .i64), [(stateF ((heldF xs).take i)).1]⟩)], fun i => i ≤ (heldF xs).length, fun i => (heldF xs).length - i⟩ | _ => some ⟨Nat, [0, 3, 4, 5, 6, 7], [0, 1, 2, 3], fun k => [(8, .v (.int .i64) (k : Int))], fun _ => [], fun k => k ≤ 32, fun k => 32 - k⟩
def sp3 : Spec := fun args ins => match args, ins with
  | [⟨.ref .slice, .slice 0 (.cons .bool (.last (.arr 32 (.int .i64)))) [] 0 n⟩], [⟨true, false, .cons .bool (.last (.arr 32 (.int .i64))), xs⟩] => some ⟨[n = xs.length], .v .bool true, [], []⟩
  | _, _ => none
def G3 := addG G31 3 sp3
def P3 (n : Nat) (xs : List (Bool × List Int)) : Prop :=
  n = List.length xs ∧ (List.length (heldF xs) = List.length (heldF xs) ∧ List.length (heldF xs) ≤ (1000 : Nat)) ∧ bif !decide ((↑(List.length (heldF xs)) : Int) = (↑(List.length (heldF xs)) : Int)) then false = true ∧ xs =
  xs ∧ true = true else ∃ (x : Nat), (((0 : Nat) = (0 : Nat) ∧ n = n ∧ (0 : Nat) = (0 : Nat) ∧ List.length (heldF xs) = List.length (heldF xs) ∧ (0 : Nat) = (0 : Nat) ∧ List.length (heldF xs) = List.length (heldF xs) ∧ (0 :
  Nat) = (0 : Nat) ∧ (0 : Int) = Prod.snd (stateF (List.take x (heldF xs))) ∧ (0 : Int) = (↑x : Int) ∧ xs = xs ∧ true = true ∧ heldF xs = heldF xs ∧ false = false ∧ fillF (zero32, (0 : Int)) (heldF xs) = fillF (zero32, (0 :
  Int)) (heldF xs) ∧ false = false ∧ (0 : Int) :: List.replicate (nat_lit 31) (0 : Int) = Prod.fst (stateF (List.take x (heldF xs))) ∧ false = false) ∧ x ≤ List.length (heldF xs)) ∧ ∀ (x : Nat), x ≤ List.length (heldF xs) →
  (IntKind.min IntKind.i64 ≤ (↑x : Int) ∧ (↑x : Int) ≤ IntKind.max IntKind.i64 ∧ IntKind.min IntKind.i64 ≤ Prod.snd (stateF (List.take x (heldF xs))) ∧ Prod.snd (stateF (List.take x (heldF xs))) ≤ IntKind.max IntKind.i64 ∧
  ∀ (y : List Int), List.Mem y [Prod.fst (stateF (List.take x (heldF xs)))] → List.length y = (32 : Nat) ∧ ∀ (y_1 : Int), List.Mem y_1 y → IntKind.min IntKind.i64 ≤ y_1 ∧ y_1 ≤ IntKind.max IntKind.i64) → bif decide ((↑x :
  Int) < (↑(List.length (heldF xs)) : Int)) then (((0 : Int) ≤ (↑x : Int) ∧ (↑x : Int) < (↑(List.length (heldF xs)) : Int)) ∧ (0 : Nat) + Int.toNat (↑x : Int) < List.length (heldF xs)) ∧ bif Prod.fst (List.getD (heldF xs)
  ((0 : Nat) + Int.toNat (↑x : Int)) (false, List.replicate (32 : Nat) (0 : Int))) then (((0 : Int) ≤ (↑x : Int) ∧ (↑x : Int) < (↑(List.length (heldF xs)) : Int)) ∧ (0 : Nat) + Int.toNat (↑x : Int) < List.length (heldF xs))
  ∧ (((0 : Int) ≤ (↑x : Int) ∧ (↑x : Int) < (↑(List.length (heldF xs)) : Int)) ∧ (0 : Nat) + Int.toNat (↑x : Int) < List.length (fillF (zero32, (0 : Int)) (heldF xs))) ∧ bif !Ty.eqb (Ty.arr (32 : Nat) (Ty.int IntKind.i64))
  (List.getD (fillF (zero32, (0 : Int)) (heldF xs)) ((0 : Nat) + Int.toNat (↑x : Int)) (List.replicate (32 : Nat) (0 : Int))) (Prod.snd (List.getD (heldF xs) ((0 : Nat) + Int.toNat (↑x : Int)) (false, List.replicate (32 :
  Nat) (0 : Int)))) then false = true ∧ xs = xs ∧ true = true else ∃ (x_1 : Nat), (((0 : Nat) = (0 : Nat) ∧ n = n ∧ (0 : Nat) = (0 : Nat) ∧ List.length (heldF xs) = List.length (heldF xs) ∧ (0 : Nat) = (0 : Nat) ∧
  List.length (heldF xs) = List.length (heldF xs) ∧ (0 : Nat) = (0 : Nat) ∧ (0 : Int) = (0 : Int) ∧ (↑x : Int) = (↑x : Int) ∧ (0 : Int) = (↑x_1 : Int) ∧ xs = xs ∧ true = true ∧ heldF xs = heldF xs ∧ false = false ∧ fillF
  (zero32, (0 : Int)) (heldF xs) = fillF (zero32, (0 : Int)) (heldF xs) ∧ false = false ∧ Prod.snd (List.getD (heldF xs) ((0 : Nat) + Int.toNat (↑x : Int)) (false, List.replicate (32 : Nat) (0 : Int))) = Prod.snd (List.getD
  (heldF xs) ((0 : Nat) + Int.toNat (↑x : Int)) (false, List.replicate (32 : Nat) (0 : Int))) ∧ false = false) ∧ x_1 ≤ (32 : Nat)) ∧ ∀ (x_2 : Nat), x_2 ≤ (32 : Nat) → IntKind.min IntKind.i64 ≤ (↑x_2 : Int) ∧ (↑x_2 : Int) ≤
  IntKind.max IntKind.i64 → bif decide ((↑x_2 : Int) < (32 : Int)) then ∀ (b : Bool), decide (sizeF (List.getD (Prod.snd (List.getD (heldF xs) ((0 : Nat) + Int.toNat (↑x : Int)) (false, List.replicate (32 : Nat) (0 :
  Int)))) (Int.toNat (↑x_2 : Int)) (0 : Int)) < sizeF (List.getD (List.getD (fillF (zero32, (0 : Int)) (heldF xs)) ((0 : Nat) + Int.toNat (↑x : Int)) (List.replicate (32 : Nat) (0 : Int))) (Int.toNat (↑x_2 : Int)) (0 :
  Int))) = b → ∀ (b_1 : Bool), decide (List.getD (List.getD (fillF (zero32, (0 : Int)) (heldF xs)) ((0 : Nat) + Int.toNat (↑x : Int)) (List.replicate (32 : Nat) (0 : Int))) (Int.toNat (↑x_2 : Int)) (0 : Int) < (0 : Int)) =
  b_1 → ∀ (b_2 : Bool), (bif b then true else bif b_1 then decide ((0 : Int) < List.getD (Prod.snd (List.getD (heldF xs) ((0 : Nat) + Int.toNat (↑x : Int)) (false, List.replicate (32 : Nat) (0 : Int)))) (Int.toNat (↑x_2 :
  Int)) (0 : Int)) else false) = b_2 → ∀ (b_3 : Bool), decide ((0 : Int) < List.getD (List.getD (fillF (zero32, (0 : Int)) (heldF xs)) ((0 : Nat) + Int.toNat (↑x : Int)) (List.replicate (32 : Nat) (0 : Int))) (Int.toNat
  (↑x_2 : Int)) (0 : Int)) = b_3 → ∀ (b_4 : Bool), (bif b_2 then true else bif b_3 then decide (List.getD (Prod.snd (List.getD (heldF xs) ((0 : Nat) + Int.toNat (↑x : Int)) (false, List.replicate (32 : Nat) (0 : Int))))
  (Int.toNat (↑x_2 : Int)) (0 : Int) < (0 : Int)) else false) = b_4 → ∀ (b_5 : Bool), false = b_5 → (((0 : Int) ≤ (↑x : Int) ∧ (↑x : Int) < (↑(List.length (heldF xs)) : Int)) ∧ ((0 : Int) ≤ (↑x_2 : Int) ∧ (↑x_2 : Int) <
  (↑(32 : Nat) : Int)) ∧ (0 : Nat) + Int.toNat (↑x : Int) < List.length (fillF (zero32, (0 : Int)) (heldF xs)) ∧ Int.toNat (↑x_2 : Int) < (32 : Nat) ∧ ((0 : Int) ≤ (↑x_2 : Int) ∧ (↑x_2 : Int) < (↑(32 : Nat) : Int)) ∧
  Int.toNat (↑x_2 : Int) < (32 : Nat) ∧ ((!b) = true → (!b) = true ∧ (!b) = true ∧ (0 : Int) ≤ (↑x : Int) ∧ (↑x : Int) < (↑(List.length (heldF xs)) : Int)) ∧ ((!b) = true → (!b) = true ∧ (!b) = true ∧ (0 : Int) ≤ (↑x_2 :
  Int) ∧ (↑x_2 : Int) < (↑(32 : Nat) : Int)) ∧ ((!b) = true → (!b) = true ∧ (0 : Nat) + Int.toNat (↑x : Int) < List.length (fillF (zero32, (0 : Int)) (heldF xs)) ∧ Int.toNat (↑x_2 : Int) < (32 : Nat)) ∧ ((!b) = true → (!b)
  = true) ∧ ((!b && !b && b_1) = true → (!b && !b && b_1) = true ∧ (0 : Int) ≤ (↑x_2 : Int) ∧ (↑x_2 : Int) < (↑(32 : Nat) : Int)) ∧ ((!b && !b && b_1) = true → (!b && !b && b_1) = true ∧ Int.toNat (↑x_2 : Int) < (32 : Nat))
  ∧ ((!b && !b && b_1) = true → (!b && !b && b_1) = true) ∧ ((!b) = true → (!b && !b) = true ∧ (b_1 = true → (!b && !b && b_1) = true)) ∧ (b = false → (!b) = true) ∧ ((!b_2) = true → (!b_2) = true ∧ (!b_2) = true ∧ (0 :
  Int) ≤ (↑x : Int) ∧ (↑x : Int) < (↑(List.length (heldF xs)) : Int)) ∧ ((!b_2) = true → (!b_2) = true ∧ (!b_2) = true ∧ (0 : Int) ≤ (↑x_2 : Int) ∧ (↑x_2 : Int) < (↑(32 : Nat) : Int)) ∧ ((!b_2) = true → (!b_2) = true ∧ (0 :
  Nat) + Int.toNat (↑x : Int) < List.length (fillF (zero32, (0 : Int)) (heldF xs)) ∧ Int.toNat (↑x_2 : Int) < (32 : Nat)) ∧ ((!b_2) = true → (!b_2) = true) ∧ ((!b_2 && !b_2 && b_3) = true → (!b_2 && !b_2 && b_3) = true ∧ (0
  : Int) ≤ (↑x_2 : Int) ∧ (↑x_2 : Int) < (↑(32 : Nat) : Int)) ∧ ((!b_2 && !b_2 && b_3) = true → (!b_2 && !b_2 && b_3) = true ∧ Int.toNat (↑x_2 : Int) < (32 : Nat)) ∧ ((!b_2 && !b_2 && b_3) = true → (!b_2 && !b_2 && b_3) =
  true) ∧ ((!b_2) = true → (!b_2 && !b_2) = true ∧ (b_3 = true → (!b_2 && !b_2 && b_3) = true)) ∧ (b_2 = false → (!b_2) = true) ∧ ((!b_4) = true → (!b_4) = true) ∧ ((!b_4 && !b_4 && b_5) = true → (!b_4 && !b_4 && b_5) =
  true ∧ (!b_4 && !b_4 && b_5) = true ∧ (0 : Int) ≤ (↑x : Int) ∧ (↑x : Int) < (↑(List.length (heldF xs)) : Int)) ∧ ((!b_4 && !b_4 && b_5) = true → (!b_4 && !b_4 && b_5) = true ∧ (!b_4 && !b_4 && b_5) = true ∧ (0 : Int) ≤
  (↑x_2 : Int) ∧ (↑x_2 : Int) < (↑(32 : Nat) : Int)) ∧ ((!b_4 && !b_4 && b_5) = true → (!b_4 && !b_4 && b_5) = true ∧ (0 : Nat) + Int.toNat (↑x : Int) < List.length (fillF (zero32, (0 : Int)) (heldF xs)) ∧ Int.toNat (↑x_2 :
  Int) < (32 : Nat)) ∧ ((!b_4 && !b_4 && b_5) = true → (!b_4 && !b_4 && b_5) = true) ∧ ((!b_4) = true → (!b_4 && !b_4) = true ∧ (b_5 = true → (!b_4 && !b_4 && b_5) = true)) ∧ (b_4 = false → (!b_4) = true)) ∧ bif bif b_4
  then true else bif b_5 then !decide (List.getD (List.getD (fillF (zero32, (0 : Int)) (heldF xs)) ((0 : Nat) + Int.toNat (↑x : Int)) (List.replicate (32 : Nat) (0 : Int))) (Int.toNat (↑x_2 : Int)) (0 : Int) = (0 : Int))
  else false then false = true ∧ xs = xs ∧ true = true else ∃ (y : Nat), ((0 : Nat) = (0 : Nat) ∧ n = n ∧ (0 : Nat) = (0 : Nat) ∧ List.length (heldF xs) = List.length (heldF xs) ∧ (0 : Nat) = (0 : Nat) ∧ List.length (heldF
  xs) = List.length (heldF xs) ∧ (0 : Nat) = (0 : Nat) ∧ (0 : Int) = (0 : Int) ∧ (↑x : Int) = (↑x : Int) ∧ IntKind.wrap IntKind.i64 ((↑x_2 : Int) + (1 : Int)) = (↑y : Int) ∧ xs = xs ∧ true = true ∧ heldF xs = heldF xs ∧
  false = false ∧ fillF (zero32, (0 : Int)) (heldF xs) = fillF (zero32, (0 : Int)) (heldF xs) ∧ false = false ∧ Prod.snd (List.getD (heldF xs) ((0 : Nat) + Int.toNat (↑x : Int)) (false, List.replicate (32 : Nat) (0 : Int)))
  = Prod.snd (List.getD (heldF xs) ((0 : Nat) + Int.toNat (↑x : Int)) (false, List.replicate (32 : Nat) (0 : Int))) ∧ false = false) ∧ y ≤ (32 : Nat) ∧ (32 : Nat) - y < (32 : Nat) - x_2 else ∃ (y : Nat), ((0 : Nat) = (0 :
  Nat) ∧ n = n ∧ (0 : Nat) = (0 : Nat) ∧ List.length (heldF xs) = List.length (heldF xs) ∧ (0 : Nat) = (0 : Nat) ∧ List.length (heldF xs) = List.length (heldF xs) ∧ (0 : Nat) = (0 : Nat) ∧ (0 : Int) = Prod.snd (stateF
  (List.take y (heldF xs))) ∧ IntKind.wrap IntKind.i64 ((↑x : Int) + (1 : Int)) = (↑y : Int) ∧ xs = xs ∧ true = true ∧ heldF xs = heldF xs ∧ false = false ∧ fillF (zero32, (0 : Int)) (heldF xs) = fillF (zero32, (0 : Int))
  (heldF xs) ∧ false = false ∧ Prod.snd (List.getD (heldF xs) ((0 : Nat) + Int.toNat (↑x : Int)) (false, List.replicate (32 : Nat) (0 : Int))) = Prod.fst (stateF (List.take y (heldF xs))) ∧ false = false) ∧ y ≤ List.length
  (heldF xs) ∧ List.length (heldF xs) - y < List.length (heldF xs) - x else ∃ (x_1 : Nat), (((0 : Nat) = (0 : Nat) ∧ n = n ∧ (0 : Nat) = (0 : Nat) ∧ List.length (heldF xs) = List.length (heldF xs) ∧ (0 : Nat) = (0 : Nat) ∧
  List.length (heldF xs) = List.length (heldF xs) ∧ (0 : Nat) = (0 : Nat) ∧ IntKind.wrap IntKind.i64 (Prod.snd (stateF (List.take x (heldF xs))) + (1 : Int)) = IntKind.wrap IntKind.i64 (Prod.snd (stateF (List.take x (heldF
  xs))) + (1 : Int)) ∧ (↑x : Int) = (↑x : Int) ∧ (0 : Int) = (↑x_1 : Int) ∧ xs = xs ∧ true = true ∧ heldF xs = heldF xs ∧ false = false ∧ fillF (zero32, (0 : Int)) (heldF xs) = fillF (zero32, (0 : Int)) (heldF xs) ∧ false =
  false ∧ Prod.fst (stateF (List.take x (heldF xs))) = Prod.fst (stateF (List.take x (heldF xs))) ∧ false = false) ∧ x_1 ≤ (32 : Nat)) ∧ ∀ (x_2 : Nat), x_2 ≤ (32 : Nat) → IntKind.min IntKind.i64 ≤ (↑x_2 : Int) ∧ (↑x_2 :
  Int) ≤ IntKind.max IntKind.i64 → bif decide ((↑x_2 : Int) < (32 : Int)) then ∀ (b : Bool), decide (sizeF (List.getD (Prod.fst (stateF (List.take x (heldF xs)))) (Int.toNat (↑x_2 : Int)) (0 : Int)) < sizeF (List.getD
  (List.getD (fillF (zero32, (0 : Int)) (heldF xs)) ((0 : Nat) + Int.toNat (↑x : Int)) (List.replicate (32 : Nat) (0 : Int))) (Int.toNat (↑x_2 : Int)) (0 : Int))) = b → ∀ (b_1 : Bool), decide (List.getD (List.getD (fillF
  (zero32, (0 : Int)) (heldF xs)) ((0 : Nat) + Int.toNat (↑x : Int)) (List.replicate (32 : Nat) (0 : Int))) (Int.toNat (↑x_2 : Int)) (0 : Int) < (0 : Int)) = b_1 → ∀ (b_2 : Bool), (bif b then true else bif b_1 then decide
  ((0 : Int) < List.getD (Prod.fst (stateF (List.take x (heldF xs)))) (Int.toNat (↑x_2 : Int)) (0 : Int)) else false) = b_2 → ∀ (b_3 : Bool), decide ((0 : Int) < List.getD (List.getD (fillF (zero32, (0 : Int)) (heldF xs))
  ((0 : Nat) + Int.toNat (↑x : Int)) (List.replicate (32 : Nat) (0 : Int))) (Int.toNat (↑x_2 : Int)) (0 : Int)) = b_3 → ∀ (b_4 : Bool), (bif b_2 then true else bif b_3 then decide (List.getD (Prod.fst (stateF (List.take x
  (heldF xs)))) (Int.toNat (↑x_2 : Int)) (0 : Int) < (0 : Int)) else false) = b_4 → ∀ (b_5 : Bool), decide ((4 : Int) ≤ IntKind.wrap IntKind.i64 (Prod.snd (stateF (List.take x (heldF xs))) + (1 : Int))) = b_5 → (((0 : Int)
  ≤ (↑x : Int) ∧ (↑x : Int) < (↑(List.length (heldF xs)) : Int)) ∧ ((0 : Int) ≤ (↑x_2 : Int) ∧ (↑x_2 : Int) < (↑(32 : Nat) : Int)) ∧ (0 : Nat) + Int.toNat (↑x : Int) < List.length (fillF (zero32, (0 : Int)) (heldF xs)) ∧
  Int.toNat (↑x_2 : Int) < (32 : Nat) ∧ ((0 : Int) ≤ (↑x_2 : Int) ∧ (↑x_2 : Int) < (↑(32 : Nat) : Int)) ∧ Int.toNat (↑x_2 : Int) < (32 : Nat) ∧ ((!b) = true → (!b) = true ∧ (!b) = true ∧ (0 : Int) ≤ (↑x : Int) ∧ (↑x : Int)
  < (↑(List.length (heldF xs)) : Int)) ∧ ((!b) = true → (!b) = true ∧ (!b) = true ∧ (0 : Int) ≤ (↑x_2 : Int) ∧ (↑x_2 : Int) < (↑(32 : Nat) : Int)) ∧ ((!b) = true → (!b) = true ∧ (0 : Nat) + Int.toNat (↑x : Int) <
  List.length (fillF (zero32, (0 : Int)) (heldF xs)) ∧ Int.toNat (↑x_2 : Int) < (32 : Nat)) ∧ ((!b) = true → (!b) = true) ∧ ((!b && !b && b_1) = true → (!b && !b && b_1) = true ∧ (0 : Int) ≤ (↑x_2 : Int) ∧ (↑x_2 : Int) <
  (↑(32 : Nat) : Int)) ∧ ((!b && !b && b_1) = true → (!b && !b && b_1) = true ∧ Int.toNat (↑x_2 : Int) < (32 : Nat)) ∧ ((!b && !b && b_1) = true → (!b && !b && b_1) = true) ∧ ((!b) = true → (!b && !b) = true ∧ (b_1 = true →
  (!b && !b && b_1) = true)) ∧ (b = false → (!b) = true) ∧ ((!b_2) = true → (!b_2) = true ∧ (!b_2) = true ∧ (0 : Int) ≤ (↑x : Int) ∧ (↑x : Int) < (↑(List.length (heldF xs)) : Int)) ∧ ((!b_2) = true → (!b_2) = true ∧ (!b_2)
  = true ∧ (0 : Int) ≤ (↑x_2 : Int) ∧ (↑x_2 : Int) < (↑(32 : Nat) : Int)) ∧ ((!b_2) = true → (!b_2) = true ∧ (0 : Nat) + Int.toNat (↑x : Int) < List.length (fillF (zero32, (0 : Int)) (heldF xs)) ∧ Int.toNat (↑x_2 : Int) <
  (32 : Nat)) ∧ ((!b_2) = true → (!b_2) = true) ∧ ((!b_2 && !b_2 && b_3) = true → (!b_2 && !b_2 && b_3) = true ∧ (0 : Int) ≤ (↑x_2 : Int) ∧ (↑x_2 : Int) < (↑(32 : Nat) : Int)) ∧ ((!b_2 && !b_2 && b_3) = true → (!b_2 && !b_2
  && b_3) = true ∧ Int.toNat (↑x_2 : Int) < (32 : Nat)) ∧ ((!b_2 && !b_2 && b_3) = true → (!b_2 && !b_2 && b_3) = true) ∧ ((!b_2) = true → (!b_2 && !b_2) = true ∧ (b_3 = true → (!b_2 && !b_2 && b_3) = true)) ∧ (b_2 = false
  → (!b_2) = true) ∧ ((!b_4) = true → (!b_4) = true) ∧ ((!b_4 && !b_4 && b_5) = true → (!b_4 && !b_4 && b_5) = true ∧ (!b_4 && !b_4 && b_5) = true ∧ (0 : Int) ≤ (↑x : Int) ∧ (↑x : Int) < (↑(List.length (heldF xs)) : Int)) ∧
  ((!b_4 && !b_4 && b_5) = true → (!b_4 && !b_4 && b_5) = true ∧ (!b_4 && !b_4 && b_5) = true ∧ (0 : Int) ≤ (↑x_2 : Int) ∧ (↑x_2 : Int) < (↑(32 : Nat) : Int)) ∧ ((!b_4 && !b_4 && b_5) = true → (!b_4 && !b_4 && b_5) = true ∧
  (0 : Nat) + Int.toNat (↑x : Int) < List.length (fillF (zero32, (0 : Int)) (heldF xs)) ∧ Int.toNat (↑x_2 : Int) < (32 : Nat)) ∧ ((!b_4 && !b_4 && b_5) = true → (!b_4 && !b_4 && b_5) = true) ∧ ((!b_4) = true → (!b_4 &&
  !b_4) = true ∧ (b_5 = true → (!b_4 && !b_4 && b_5) = true)) ∧ (b_4 = false → (!b_4) = true)) ∧ bif bif b_4 then true else bif b_5 then !decide (List.getD (List.getD (fillF (zero32, (0 : Int)) (heldF xs)) ((0 : Nat) +
  Int.toNat (↑x : Int)) (List.replicate (32 : Nat) (0 : Int))) (Int.toNat (↑x_2 : Int)) (0 : Int) = (0 : Int)) else false then false = true ∧ xs = xs ∧ true = true else ∃ (y : Nat), ((0 : Nat) = (0 : Nat) ∧ n = n ∧ (0 :
  Nat) = (0 : Nat) ∧ List.length (heldF xs) = List.length (heldF xs) ∧ (0 : Nat) = (0 : Nat) ∧ List.length (heldF xs) = List.length (heldF xs) ∧ (0 : Nat) = (0 : Nat) ∧ IntKind.wrap IntKind.i64 (Prod.snd (stateF (List.take
  x (heldF xs))) + (1 : Int)) = IntKind.wrap IntKind.i64 (Prod.snd (stateF (List.take x (heldF xs))) + (1 : Int)) ∧ (↑x : Int) = (↑x : Int) ∧ IntKind.wrap IntKind.i64 ((↑x_2 : Int) + (1 : Int)) = (↑y : Int) ∧ xs = xs ∧ true
  = true ∧ heldF xs = heldF xs ∧ false = false ∧ fillF (zero32, (0 : Int)) (heldF xs) = fillF (zero32, (0 : Int)) (heldF xs) ∧ false = false ∧ Prod.fst (stateF (List.take x (heldF xs))) = Prod.fst (stateF (List.take x
  (heldF xs))) ∧ false = false) ∧ y ≤ (32 : Nat) ∧ (32 : Nat) - y < (32 : Nat) - x_2 else ∃ (y : Nat), ((0 : Nat) = (0 : Nat) ∧ n = n ∧ (0 : Nat) = (0 : Nat) ∧ List.length (heldF xs) = List.length (heldF xs) ∧ (0 : Nat) =
  (0 : Nat) ∧ List.length (heldF xs) = List.length (heldF xs) ∧ (0 : Nat) = (0 : Nat) ∧ IntKind.wrap IntKind.i64 (Prod.snd (stateF (List.take x (heldF xs))) + (1 : Int)) = Prod.snd (stateF (List.take y (heldF xs))) ∧
  IntKind.wrap IntKind.i64 ((↑x : Int) + (1 : Int)) = (↑y : Int) ∧ xs = xs ∧ true = true ∧ heldF xs = heldF xs ∧ false = false ∧ fillF (zero32, (0 : Int)) (heldF xs) = fillF (zero32, (0 : Int)) (heldF xs) ∧ false = false ∧
  Prod.fst (stateF (List.take x (heldF xs))) = Prod.fst (stateF (List.take y (heldF xs))) ∧ false = false) ∧ y ≤ List.length (heldF xs) ∧ List.length (heldF xs) - y < List.length (heldF xs) - x else true = true ∧ xs = xs ∧
  true = true
theorem vc3 (n : Nat) (xs : List (Bool × List Int)) : P3 n xs = vcFun C3 (ann3 n xs) Go.Proofs.Try.f3 [⟨.ref .slice, .slice 0 (.cons .bool (.last (.arr 32 (.int .i64)))) [] 0 n⟩] [⟨true, false, .cons .bool (.last (.arr 32 (.int .i64))), xs⟩] ⟨[n = xs.length], .v .bool true, [], []⟩ := by kernel_rfl

end Go.SL.A

namespace Go.SL.A
open Go Go.SL Go.SL.S

theorem pure31 : P31 := by unfold P31; simp

/-- Plain comparing of arrays of numbers. -/
theorem eqb_refl_int {n : Nat} {k : IntKind} (x : List Int) : Ty.eqb (.arr n (.int k)) x x = true := by
  show (List.range n).all (fun i => decide (List.getD x i (0 : Int) = List.getD x i (0 : Int))) = true
  simp

theorem scale1_sz {n x : Int} (h1 : 1 ≤ n) (hx1 : -4611686018427387904 ≤ x) (hx2 : x ≤ 4611686018427387904) :
    ¬ sizeF x < sizeF (scale1 n x) ∧ ¬ (scale1 n x < 0 ∧ 0 < x) ∧ ¬ (0 < scale1 n x ∧ x < 0) ∧ (4 ≤ n → scale1 n x = 0) := by
  have d1 := tdm x (k := 4) (by decide)
  have hb : (0 ≤ x → 0 ≤ scale1 n x ∧ scale1 n x ≤ x) ∧ (x ≤ 0 → scale1 n x ≤ 0 ∧ x ≤ scale1 n x) ∧ (4 ≤ n → scale1 n x = 0) := by
    unfold scale1
    generalize x.tdiv 4 = q at *
    generalize x.tmod 4 = r at *
    have hn : n = 1 ∨ n = 2 ∨ n = 3 ∨ 4 ≤ n := by omega
    rcases hn with rfl | rfl | rfl | hn
    · have d2 := tdm ((4 - 1) * r) (k := 4) (by decide)
      simp only [show max (4 - 1 : Int) 0 = 3 by decide, show (1 : Int) < 4 by decide, if_true]
      generalize ((4 - 1) * r).tdiv 4 = a at *
      generalize ((4 - 1) * r).tmod 4 = b at *
      omega
    · have d2 := tdm ((4 - 2) * r) (k := 4) (by decide)
      simp only [show max (4 - 2 : Int) 0 = 2 by decide, show (2 : Int) < 4 by decide, if_true]
      generalize ((4 - 2) * r).tdiv 4 = a at *
      generalize ((4 - 2) * r).tmod 4 = b at *
      omega
    · have d2 := tdm ((4 - 3) * r) (k := 4) (by decide)
      simp only [show max (4 - 3 : Int) 0 = 1 by decide, show (3 : Int) < 4 by decide, if_true]
      generalize ((4 - 3) * r).tdiv 4 = a at *
      generalize ((4 - 3) * r).tmod 4 = b at *
      omega
    · have : max (4 - n) 0 = 0 := by omega
      rw [this, if_neg (by omega)]
      omega
  unfold sizeF
  rw [w64 (n := 0 - x) (by omega) (by omega), w64 (n := 0 - scale1 n x) (by omega) (by omega)]
  omega

/-- What the states are that frames are made of. -/
theorem stateF_ok {xs : List (Bool × List Int)} (hl : ∀ y ∈ xs, y.2.length = 32) : ∀ k, k ≤ (heldF xs).length →
    (stateF ((heldF xs).take k)).1.length = 32 ∧ (∀ x ∈ (stateF ((heldF xs).take k)).1, -1099511627776 < x ∧ x < 1099511627776) ∧ 0 ≤ (stateF ((heldF xs).take k)).2 ∧ (stateF ((heldF xs).take k)).2 ≤ k := by
  intro k
  induction k with
  | zero => intro _; simp [stateF, zero32]
  | succ k ih =>
    intro hk
    obtain ⟨h1, h2, h3, h4⟩ := ih (by omega)
    have hlt : k < (heldF xs).length := by omega
    have hlen := heldF_len xs
    rw [stateF_snoc (false, List.replicate 32 0) hlt]
    unfold nextF
    have hm := getD_mem (d := (false, List.replicate 32 (0 : Int))) hlt
    generalize (heldF xs).getD k (false, List.replicate 32 0) = g at *
    simp only [heldF, List.mem_map] at hm
    obtain ⟨y, hy, rfl⟩ := hm
    split
    · refine ⟨by simp [hl y (List.mem_of_mem_take hy)], fun x hx => ?_, by simp, by simp; omega⟩
      obtain ⟨z, _, rfl⟩ := List.mem_map.1 hx
      exact remF_fits z
    · have hw : IntKind.i64.wrap ((stateF ((heldF xs).take k)).2 + 1) = (stateF ((heldF xs).take k)).2 + 1 := w64 (by omega) (by omega)
      refine ⟨h1, h2, ?_, ?_⟩
      · show 0 ≤ IntKind.i64.wrap _; rw [hw]; omega
      · show IntKind.i64.wrap _ ≤ _; rw [hw]; omega

theorem pure3 (n : Nat) (xs : List (Bool × List Int)) (hn : n = xs.length) (hl : ∀ y ∈ xs, y.2.length = 32) : P3 n xs := by
  unfold P3
  have hlen := heldF_len xs
  have hfl := fillF_len (heldF xs) (zero32, 0)
  simp only [Int.toNat_natCast, Nat.zero_add, hfl, decide_true, Bool.not_true, cond_false, and_self, true_and, and_true]
  have hkk : ∀ k : Nat, 0 ≤ (k : Int) := fun k => by omega
  refine ⟨hn, by omega, 0, ⟨by simp [stateF, zero32], by simp⟩, fun k hk _ => ?_⟩
  by_cases hkl : (k : Int) < ((heldF xs).length : Int)
  · have hk2 : k < (heldF xs).length := by omega
    simp only [hkl, decide_true, cond_true]
    obtain ⟨s1, s2, s3, s4⟩ := stateF_ok hl k hk
    have hst := stateF_snoc (false, List.replicate 32 0) hk2
    have hget : (fillF (zero32, 0) (heldF xs)).getD k (List.replicate 32 0) = frameF (nextF (stateF ((heldF xs).take k)) ((heldF xs).getD k (false, List.replicate 32 0))) := by
      rw [List.getD_eq_getElem?_getD, fillF_get (heldF xs) (zero32, 0) k (false, List.replicate 32 0) hk2]; rfl
    have hw : IntKind.i64.wrap ((k : Int) + 1) = ((k + 1 : Nat) : Int) := by rw [w64 (by omega) (by omega)]; simp
    rw [hget]
    have hm := getD_mem (d := (false, List.replicate 32 (0 : Int))) hk2
    generalize (heldF xs).getD k (false, List.replicate 32 0) = g at *
    refine ⟨by simp [hk2], ?_⟩
    cases hg : g.1 with
    | true =>
      have e1 : nextF (stateF ((heldF xs).take k)) g = (g.2, 0) := by simp [nextF, hg]
      have e2 : frameF (g.2, 0) = g.2 := by simp [frameF, scaleF]
      rw [e1] at hst
      rw [e1, e2]
      simp only [cond_true, eqb_refl_int, Bool.not_true, cond_false]
      refine ⟨by simp [hk2], by simp [hk2], 0, ⟨by simp, by simp⟩, fun j hj _ => ?_⟩
      by_cases hj2 : (j : Int) < 32
      · have hw2 : IntKind.i64.wrap ((j : Int) + 1) = ((j + 1 : Nat) : Int) := by rw [w64 (by omega) (by omega)]; simp
        simp only [hj2, decide_true, cond_true, Int.lt_irrefl, decide_false]
        generalize g.2.getD j 0 = v
        rintro _ rfl b1 hb1 b2 hb2 b3 hb3 b4 hb4 _ rfl
        have hb2' : b2 = false := by
          rw [← hb2, ← hb1]; simp; omega
        subst hb2'
        have hb4' : b4 = false := by
          rw [← hb4, ← hb3]; simp; omega
        subst hb4'
        refine ⟨by simp [hk2, hj2, show j < 32 by omega], j + 1, hw2, by omega, by omega⟩
      · have : j = 32 := by omega
        subst this
        simp only [hj2, decide_false, cond_false]
        refine ⟨k + 1, ?_, by omega, by omega⟩
        rw [hst, hw]; exact ⟨rfl, rfl, rfl⟩
    | false =>
      have hw3 : IntKind.i64.wrap ((stateF ((heldF xs).take k)).2 + 1) = (stateF ((heldF xs).take k)).2 + 1 := w64 (by omega) (by omega)
      have e1 : nextF (stateF ((heldF xs).take k)) g = ((stateF ((heldF xs).take k)).1, (stateF ((heldF xs).take k)).2 + 1) := by simp [nextF, hg, hw3]
      rw [e1] at hst
      rw [e1, hw3]
      generalize stateF ((heldF xs).take k) = s at *
      have e2 : frameF (s.1, s.2 + 1) = s.1.map (scale1 (s.2 + 1)) := by simp [frameF, scaleF]; omega
      rw [e2]
      simp only [cond_false]
      refine ⟨0, ⟨by simp, by simp⟩, fun j hj _ => ?_⟩
      by_cases hj2 : (j : Int) < 32
      · have hw2 : IntKind.i64.wrap ((j : Int) + 1) = ((j + 1 : Nat) : Int) := by rw [w64 (by omega) (by omega)]; simp
        have hjl : j < s.1.length := by omega
        have hgj : (s.1.map (scale1 (s.2 + 1))).getD j 0 = scale1 (s.2 + 1) (s.1.getD j 0) := by simp [hjl]
        have hb := s2 _ (getD_mem (d := 0) hjl)
        obtain ⟨q1, q2, q3, q4⟩ := scale1_sz (n := s.2 + 1) (x := s.1.getD j 0) (by omega) (by omega) (by omega)
        obtain ⟨v, hv⟩ : ∃ v, s.1.getD j 0 = v := ⟨_, rfl⟩
        obtain ⟨w, hw4⟩ : ∃ w, scale1 (s.2 + 1) v = w := ⟨_, rfl⟩
        simp only [hj2, decide_true, cond_true, hgj, hv, hw4] at q1 q2 q3 q4 ⊢
        rintro b0 hb0 b1 hb1 b2 hb2 b3 hb3 b4 hb4 b5 hb5
        have h0' : b0 = false := by rw [← hb0]; simpa using q1
        subst h0'
        have hb2' : b2 = false := by
          rw [← hb2, ← hb1]; simp; omega
        subst hb2'
        have hb4' : b4 = false := by
          rw [← hb4, ← hb3]; simp; omega
        subst hb4'
        have h5 : (bif false then true else bif b5 then !decide (w = 0) else false) = false := by
          rw [← hb5]; simp; exact q4
        rw [h5]
        refine ⟨by simp [hk2, hj2, show j < 32 by omega], j + 1, hw2, by omega, by omega⟩
      · have : j = 32 := by omega
        subst this
        simp only [hj2, decide_false, cond_false]
        refine ⟨k + 1, ?_, by omega, by omega⟩
        rw [hst, hw]; exact ⟨rfl, rfl, rfl⟩
  · simp only [hkl, decide_false, cond_false]

theorem snd31 : Sound Go.Proofs.Try.prog G31 := snd32.add ⟨_, Go.Proofs.Try.func31, by kernel_rfl, by kernel_rfl⟩ (by
  intro args ins out h hp
  unfold sp31 at h
  split at h
  · cases h
    exact vcFun_ok (C := C31) good snd32 Meth.none mix Go.Proofs.Try.func31 ann31 (fun hw => vc31 ▸ pure31)
  · cases h)

theorem snd3 : Sound Go.Proofs.Try.prog G3 := snd31.add ⟨_, Go.Proofs.Try.func3, by kernel_rfl, by kernel_rfl⟩ (by
  intro args ins out h hp
  unfold sp3 at h
  split at h
  · rename_i n xs
    cases h
    refine vcFun_ok (C := C3) good snd31 Meth.none mix Go.Proofs.Try.func3 (ann3 n xs) (fun hw => (vc3 n xs) ▸ pure3 n xs hp fun y hy => ?_)
    have hw : ∀ y ∈ (xs : List (Bool × List Int)), allP (Ty.wf (.cons .bool (.last (.arr 32 (.int .i64)))) y) := by
      simpa [Blk.wf, allP, Ty.wf] using hw
    have := hw y hy
    simp [Ty.wf, allP] at this
    exact this.1
  · cases h)

end Go.SL.A

/- Plain functions of fade, more. -/
namespace Go.SL.S
open Go
def cut1 (x : Int) : Int := max (min x 32767) (-32768)
def cutF (l : List Int) : List Int := l.map cut1
def lostF (xs : List (Bool × List Int)) : Int := ((xs.countP fun g => !g.1 : Nat) : Int)
def refScale (x n : Int) : Int := if n < 1 then x else if 4 ≤ n then 0 else IntKind.i64.wrap ((IntKind.i64.wrap (IntKind.i64.wrap (4 - n) * x)).tdiv 4)
def rem50 (x : Int) : Int := x.tmod 1125899906842624
def refCut (x : Int) : Int := if 32767 < x then 32767 else if x < -32768 then -32768 else x
end Go.SL.S

/- Functions and what they are held to do: bound to their code. -/
namespace Go.SL.A
open Go Go.SL Go.SL.S
set_option maxRecDepth 100000
noncomputable def C36 : Ctx := ⟨Go.Proofs.Try.prog, D, G31, (fun _ _ => none), fun _ => []⟩
def ann36 (r : Bool) (n : Nat) (l : List Int) : Nat → St → Option Ann := fun _ _ => some ⟨Nat, [6, 7], [0], fun k => [(8, .v (.int .i64) (k : Int)), (3, .v (.ref .slice) (.slice 1 (.int .i64) [] 0 k))], fun k => [(1, some ⟨false, false, .int .i64, (cutF l).take k⟩)], fun k => k ≤ l.length, fun k => l.length - k⟩
def sp36 : Spec := fun args ins => match args, ins with
  | [⟨.ref .slice, .slice 0 (.int .i64) [] 0 n⟩], [⟨r, false, .int .i64, l⟩] => some ⟨[n = l.length, n ≤ 1000000], .v (.ref .slice) (.slice 1 (.int .i64) [] 0 n), [], [⟨false, false, .int .i64, cutF l⟩]⟩
  | _, _ => none
def G36 := addG G31 36 sp36
def P36 (r : Bool) (n : Nat) (l : List Int) : Prop :=
  ∃ (x : Nat), ((x = (0 : Nat) ∧ (0 : Nat) = (0 : Nat) ∧ n = n ∧ (↑n : Int) = (↑n : Int) ∧ (0 : Int) = (↑x : Int) ∧ l = l ∧ r = r ∧ List.take x (cutF l) = []) ∧ x ≤ List.length l) ∧ ∀ (x : Nat), x ≤ List.length l →
  (IntKind.min IntKind.i64 ≤ (↑x : Int) ∧ (↑x : Int) ≤ IntKind.max IntKind.i64 ∧ ∀ (y : Int), List.Mem y (List.take x (cutF l)) → IntKind.min IntKind.i64 ≤ y ∧ y ≤ IntKind.max IntKind.i64) → bif decide ((↑x : Int) < (↑n :
  Int)) then (((0 : Int) ≤ (↑x : Int) ∧ (↑x : Int) < (↑n : Int)) ∧ (0 : Nat) + Int.toNat (↑x : Int) < List.length l) ∧ ((1 : Nat) ≤ (1 : Nat) ∧ (0 : Nat) + x = List.length (List.take x (cutF l)) ∧ (x + List.length (seg (max
  (min (List.getD l ((0 : Nat) + Int.toNat (↑x : Int)) (0 : Int)) (32767 : Int)) (-32768 : Int) :: List.replicate (nat_lit 0) (0 : Int)) (0 : Nat) (1 : Nat))) * (8 : Nat) ≤ (70368744177664 : Nat)) ∧ ∃ (y : Nat), ((0 : Nat)
  = (0 : Nat) ∧ x + List.length (seg (max (min (List.getD l ((0 : Nat) + Int.toNat (↑x : Int)) (0 : Int)) (32767 : Int)) (-32768 : Int) :: List.replicate (nat_lit 0) (0 : Int)) (0 : Nat) (1 : Nat)) = y ∧ (0 : Nat) = (0 :
  Nat) ∧ n = n ∧ (↑n : Int) = (↑n : Int) ∧ IntKind.wrap IntKind.i64 ((↑x : Int) + (1 : Int)) = (↑y : Int) ∧ l = l ∧ r = r ∧ List.append (List.drop (0 : Nat) (List.take x (cutF l))) (seg (max (min (List.getD l ((0 : Nat) +
  Int.toNat (↑x : Int)) (0 : Int)) (32767 : Int)) (-32768 : Int) :: List.replicate (nat_lit 0) (0 : Int)) (0 : Nat) (1 : Nat)) = List.take y (cutF l) ∧ false = false) ∧ y ≤ List.length l ∧ List.length l - y < List.length l
  - x else (0 : Nat) = (0 : Nat) ∧ x = n ∧ l = l ∧ r = r ∧ List.take x (cutF l) = cutF l ∧ false = false
theorem vc36 (r : Bool) (n : Nat) (l : List Int) : P36 r n l = vcFun C36 (ann36 r n l) Go.Proofs.Try.f36 [⟨.ref .slice, .slice 0 (.int .i64) [] 0 n⟩] [⟨r, false, .int .i64, l⟩] ⟨[n = l.length, n ≤ 1000000], .v (.ref .slice) (.slice 1 (.int .i64) [] 0 n), [], [⟨false, false, .int .i64, cutF l⟩]⟩ := by kernel_rfl

noncomputable def C37 : Ctx := ⟨Go.Proofs.Try.prog, D, G36, (fun _ _ => none), fun _ => []⟩
def ann37 (r : Bool) (n : Nat) (xs : List (Bool × List Int)) : Nat → St → Option Ann := fun _ _ => some ⟨Nat, [6, 7], [0], fun k => [(8, .v (.int .i64) (k : Int)), (3, .v (.int .i64) (lostF (xs.take k)))], fun _ => [], fun k => k ≤ xs.length, fun k => xs.length - k⟩
def sp37 : Spec := fun args ins => match args, ins with
  | [⟨.ref .slice, .slice 0 (.cons .bool (.last (.arr 32 (.int .i64)))) [] 0 n⟩], [⟨r, false, .cons .bool (.last (.arr 32 (.int .i64))), xs⟩] => some ⟨[n = xs.length, n ≤ 1000000], .v (.int .i64) (lostF xs), [], []⟩
  | _, _ => none
def G37 := addG G36 37 sp37
def P37 (r : Bool) (n : Nat) (xs : List (Bool × List Int)) : Prop :=
  ∃ (x : Nat), (((0 : Int) = lostF (List.take x xs) ∧ (0 : Nat) = (0 : Nat) ∧ n = n ∧ (↑n : Int) = (↑n : Int) ∧ (0 : Int) = (↑x : Int) ∧ xs = xs ∧ r = r) ∧ x ≤ List.length xs) ∧ ∀ (x : Nat), x ≤ List.length xs → IntKind.min
  IntKind.i64 ≤ (↑x : Int) ∧ (↑x : Int) ≤ IntKind.max IntKind.i64 ∧ IntKind.min IntKind.i64 ≤ lostF (List.take x xs) ∧ lostF (List.take x xs) ≤ IntKind.max IntKind.i64 → bif decide ((↑x : Int) < (↑n : Int)) then (((0 : Int)
  ≤ (↑x : Int) ∧ (↑x : Int) < (↑n : Int)) ∧ (0 : Nat) + Int.toNat (↑x : Int) < List.length xs) ∧ bif !Prod.fst (List.getD xs ((0 : Nat) + Int.toNat (↑x : Int)) (false, List.replicate (32 : Nat) (0 : Int))) then ∃ (y : Nat),
  (IntKind.wrap IntKind.i64 (lostF (List.take x xs) + (1 : Int)) = lostF (List.take y xs) ∧ (0 : Nat) = (0 : Nat) ∧ n = n ∧ (↑n : Int) = (↑n : Int) ∧ IntKind.wrap IntKind.i64 ((↑x : Int) + (1 : Int)) = (↑y : Int) ∧ xs = xs
  ∧ r = r) ∧ y ≤ List.length xs ∧ List.length xs - y < List.length xs - x else ∃ (y : Nat), (lostF (List.take x xs) = lostF (List.take y xs) ∧ (0 : Nat) = (0 : Nat) ∧ n = n ∧ (↑n : Int) = (↑n : Int) ∧ IntKind.wrap
  IntKind.i64 ((↑x : Int) + (1 : Int)) = (↑y : Int) ∧ xs = xs ∧ r = r) ∧ y ≤ List.length xs ∧ List.length xs - y < List.length xs - x else lostF (List.take x xs) = lostF xs ∧ xs = xs ∧ r = r
theorem vc37 (r : Bool) (n : Nat) (xs : List (Bool × List Int)) : P37 r n xs = vcFun C37 (ann37 r n xs) Go.Proofs.Try.f37 [⟨.ref .slice, .slice 0 (.cons .bool (.last (.arr 32 (.int .i64)))) [] 0 n⟩] [⟨r, false, .cons .bool (.last (.arr 32 (.int .i64))), xs⟩] ⟨[n = xs.length, n ≤ 1000000], .v (.int .i64) (lostF xs), [], []⟩ := by kernel_rfl

noncomputable def C38 : Ctx := ⟨Go.Proofs.Try.prog, D, G37, (fun _ _ => none), fun _ => []⟩
def ann38 (x n : Int) : Nat → St → Option Ann := fun _ _ => none
def sp38 : Spec := fun args ins => match args, ins with
  | [⟨.int .i64, x⟩, ⟨.int .i64, n⟩], [] => some ⟨[], .v (.int .i64) (refScale x n), [], []⟩
  | _, _ => none
def G38 := addG G37 38 sp38
def P38 (x n : Int) : Prop :=
  bif decide (n < (1 : Int)) then x = refScale x n else bif decide ((4 : Int) ≤ n) then (0 : Int) = refScale x n else (4 : Int) ≠ (0 : Int) ∧ IntKind.wrap IntKind.i64 (Int.tdiv (IntKind.wrap IntKind.i64 (IntKind.wrap
  IntKind.i64 ((4 : Int) - n) * x)) (4 : Int)) = refScale x n
theorem vc38 (x n : Int) : P38 x n = vcFun C38 (ann38 x n) Go.Proofs.Try.f38 [⟨.int .i64, x⟩, ⟨.int .i64, n⟩] [] ⟨[], .v (.int .i64) (refScale x n), [], []⟩ := by kernel_rfl

noncomputable def C39 : Ctx := ⟨Go.Proofs.Try.prog, D, G38, (fun _ _ => none), fun _ => []⟩
def ann39 (x : Int) : Nat → St → Option Ann := fun _ _ => none
def sp39 : Spec := fun args ins => match args, ins with
  | [⟨.int .i64, x⟩], [] => some ⟨[], .v (.int .i64) (refCut x), [], []⟩
  | _, _ => none
def G39 := addG G38 39 sp39
def P39 (x : Int) : Prop :=
  bif decide ((32767 : Int) < x) then (32767 : Int) = refCut x else bif decide (x < (-32768 : Int)) then (-32768 : Int) = refCut x else x = refCut x
theorem vc39 (x : Int) : P39 x = vcFun C39 (ann39 x) Go.Proofs.Try.f39 [⟨.int .i64, x⟩] [] ⟨[], .v (.int .i64) (refCut x), [], []⟩ := by kernel_rfl

end Go.SL.A

namespace Go.SL.A
open Go Go.SL Go.SL.S

theorem seg_one' {α : Type} (x y : α) : seg (x :: List.replicate 0 y) 0 1 = [x] := rfl

theorem pure36 (r : Bool) (n : Nat) (l : List Int) (hn : n = l.length) (h1 : n ≤ 1000000) : P36 r n l := by
  subst hn
  unfold P36
  simp only [Int.toNat_natCast, Nat.zero_add, seg_one', List.length_singleton, eq_self, true_and, and_true]
  have hcl : (cutF l).length = l.length := by simp [cutF]
  refine ⟨0, ⟨by simp, by omega⟩, fun k hk _ => ?_⟩
  by_cases h : (k : Int) < (l.length : Int)
  · have hk2 : k < l.length := by omega
    have hw : IntKind.i64.wrap ((k : Int) + 1) = ((k + 1 : Nat) : Int) := by rw [w64 (by omega) (by omega)]; simp
    simp only [h, decide_true, cond_true]
    refine ⟨by simp [hk2], ⟨by omega, by rw [List.length_take, hcl]; omega, by omega⟩, k + 1, ⟨rfl, hw, ?_⟩, by omega, by omega⟩
    show List.take k _ ++ [_] = _
    rw [take_snoc (v := cut1 (l.getD k 0)) (by simp [cutF, hk2])]
    rfl
  · have : k = l.length := by omega
    subst this
    simp only [h, decide_false, cond_false]
    exact ⟨trivial, by rw [List.take_of_length_le (by omega)]⟩

theorem lostF_snoc {xs : List (Bool × List Int)} {k : Nat} (d : Bool × List Int) (h : k < xs.length) : lostF (xs.take (k + 1)) = lostF (xs.take k) + (if (xs.getD k d).1 then 0 else 1) := by
  rw [take_snoc (getD_some (d := d) h)]
  unfold lostF
  rw [List.countP_append]
  generalize xs.getD k d = g
  cases hh : g.1 <;> simp [hh, List.countP_cons]

theorem lostF_le (xs : List (Bool × List Int)) : 0 ≤ lostF xs ∧ lostF xs ≤ xs.length := by
  unfold lostF
  have := List.countP_le_length (p := fun g : Bool × List Int => !g.1) (l := xs)
  omega

theorem pure37 (r : Bool) (n : Nat) (xs : List (Bool × List Int)) (hn : n = xs.length) (h1 : n ≤ 1000000) : P37 r n xs := by
  subst hn
  unfold P37
  simp only [Int.toNat_natCast, Nat.zero_add, eq_self, true_and, and_true]
  refine ⟨0, ⟨by simp [lostF], by omega⟩, fun k hk _ => ?_⟩
  by_cases h : (k : Int) < (xs.length : Int)
  · have hk2 : k < xs.length := by omega
    have hw : IntKind.i64.wrap ((k : Int) + 1) = ((k + 1 : Nat) : Int) := by rw [w64 (by omega) (by omega)]; simp
    have hs := lostF_snoc (false, List.replicate 32 0) hk2
    have hle := lostF_le (xs.take k)
    rw [List.length_take] at hle
    simp only [h, decide_true, cond_true]
    refine ⟨by simp [hk2], ?_⟩
    cases hg : (xs.getD k (false, List.replicate 32 0)).1 with
    | true =>
      rw [hg] at hs
      exact ⟨k + 1, ⟨by rw [hs]; simp, hw⟩, by omega, by omega⟩
    | false =>
      rw [hg] at hs
      exact ⟨k + 1, ⟨by rw [hs, w64 (by omega) (by omega)]; simp, hw⟩, by omega, by omega⟩
  · have : k = xs.length := by omega
    subst this
    simp only [h, decide_false, cond_false]
    rw [List.take_of_length_le (by omega)]

theorem pure38 (x n : Int) : P38 x n := by
  unfold P38 refScale
  by_cases h : n < 1
  · simp [h]
  · by_cases h2 : 4 ≤ n <;> simp [h, h2]

theorem pure39 (x : Int) : P39 x := by
  unfold P39 refCut
  by_cases h : 32767 < x
  · simp [h]
  · by_cases h2 : x < -32768 <;> simp [h, h2]

end Go.SL.A

/- Functions do what they are held to do. -/
namespace Go.SL.A
open Go Go.SL Go.SL.S
theorem snd36 : Sound Go.Proofs.Try.prog G36 := snd31.add ⟨_, Go.Proofs.Try.func36, by kernel_rfl, by kernel_rfl⟩ (by
  intro args ins out h hp
  unfold sp36 at h
  split at h
  · rename_i n r l
    cases h
    exact vcFun_ok (C := C36) good snd31 Meth.none mix Go.Proofs.Try.func36 (ann36 r n l) (fun hw => (vc36 r n l) ▸ pure36 r n l hp.1 hp.2)
  · cases h)

theorem snd37 : Sound Go.Proofs.Try.prog G37 := snd36.add ⟨_, Go.Proofs.Try.func37, by kernel_rfl, by kernel_rfl⟩ (by
  intro args ins out h hp
  unfold sp37 at h
  split at h
  · rename_i n r xs
    cases h
    exact vcFun_ok (C := C37) good snd36 Meth.none mix Go.Proofs.Try.func37 (ann37 r n xs) (fun hw => (vc37 r n xs) ▸ pure37 r n xs hp.1 hp.2)
  · cases h)

theorem snd38 : Sound Go.Proofs.Try.prog G38 := snd37.add ⟨_, Go.Proofs.Try.func38, by kernel_rfl, by kernel_rfl⟩ (by
  intro args ins out h hp
  unfold sp38 at h
  split at h
  · rename_i x n
    cases h
    exact vcFun_ok (C := C38) good snd37 Meth.none mix Go.Proofs.Try.func38 (ann38 x n) (fun hw => (vc38 x n) ▸ pure38 x n)
  · cases h)

theorem snd39 : Sound Go.Proofs.Try.prog G39 := snd38.add ⟨_, Go.Proofs.Try.func39, by kernel_rfl, by kernel_rfl⟩ (by
  intro args ins out h hp
  unfold sp39 at h
  split at h
  · rename_i x
    cases h
    exact vcFun_ok (C := C39) good snd38 Meth.none mix Go.Proofs.Try.func39 (ann39 x) (fun hw => (vc39 x) ▸ pure39 x)
  · cases h)

end Go.SL.A
