/- FadePlays returns true, whatever its arguments, which read afterwards as before: no condition. -/
import Derived.Test.YthhfccnhkadkcaaRows
import Derived.Test.YthhfccnhkadkcaaFade
import Derived.Test.YthhfccnhkadkcaaFadeB
import Derived.Test.YthhfccnhkadkcaaKb
import Derived.Test.YthhfccnhkadkcaaT

/- Functions and what they are held to do: bound to their code. -/
namespace Go.SL.A
open Go Go.SL Go.SL.S
set_option maxRecDepth 100000
noncomputable def C6 : Ctx := ⟨Go.Proofs.Try.prog, D, G39, (fun _ _ => none), fun _ => []⟩
def ann6 (n m : Nat) (f : List Int) (nn : Int) (xs : List (Bool × List Int)) (l : List Int) : Nat → St → Option Ann := fun id S => match id with | 0 => some ⟨Nat, [1, 3, 6, 9, 10, 11], [0, 1, 2, 3, 4], fun i => [(14, .v (.int .i64) (i : Int)), (12, .v (.int .i64) (stateF ((heldF xs).take i)).2), (13, .v (.int .i64) (lostF ((heldF xs).take i)))], fun i => [(5, some ⟨false, true, .arr 32 (.int .i64), [(stateF ((heldF xs).take i)).1]⟩)], fun i => i ≤ (heldF xs).length, fun i => (heldF xs).length - i⟩ | 2 => some ⟨Nat, [1, 3, 6, 9, 10, 11, 12, 13, 14], [0, 1, 2, 3, 4, 5], fun k => [(15, .v (.int .i64) (k : Int))], fun _ => [], fun k => k ≤ 32, fun k => 32 - k⟩ | 4 => some ⟨Nat, [1, 3, 6, 9, 13], [0, 1, 3], fun k => [(16, .v (.int .i64) (k : Int))], fun k => [(2, some ⟨false, true, .arr 32 (.int .i64), [(f.map rem50).take k ++ f.drop k]⟩)], fun k => k ≤ 32, fun k => 32 - k⟩ | 6 => some ⟨Nat, [1, 3, 6, 9, 13, 17], [0, 1, 2, 3, 6], fun k => [(18, .v (.int .i64) (k : Int))], fun _ => [], fun k => k ≤ 32, fun k => 32 - k⟩ | _ => some ⟨Nat, [1, 9, 13, 19], [0, 1, 3, 7], fun k => [(20, .v (.int .i64) (k : Int))], fun _ => [], fun k => k ≤ l.length, fun k => l.length - k⟩
def sp6 : Spec := fun args ins => match args, ins with
  | [⟨.ref .slice, .slice 0 (.cons .bool (.last (.arr 32 (.int .i64)))) [] 0 n⟩, ⟨.ref .slice, .slice 1 (.int .i64) [] 0 m⟩, ⟨.arr 32 (.int .i64), f⟩, ⟨.int .i64, nn⟩], [⟨true, false, .cons .bool (.last (.arr 32 (.int .i64))), xs⟩, ⟨true, false, .int .i64, l⟩] => some ⟨[n = xs.length, m = l.length], .v .bool true, [], []⟩
  | _, _ => none
def G6 := addG G39 6 sp6
def P6 (n m : Nat) (f : List Int) (nn : Int) (xs : List (Bool × List Int)) (l : List Int) : Prop :=
  ∀ (b : Bool), false = b → (((!b) = true → (!b) = true) ∧ ((!b) = true → (!b) = true) ∧ (b = false → (!b) = true)) ∧ bif bif b then true else decide ((1000 : Int) < (↑m : Int)) then true = true ∧ xs = xs ∧ true = true ∧ l
  = l ∧ true = true else n = List.length xs ∧ (List.length (heldF xs) = List.length (heldF xs) ∧ List.length (heldF xs) ≤ (1000 : Nat)) ∧ ∃ (x : Nat), (((0 : Nat) = (0 : Nat) ∧ m = m ∧ nn = nn ∧ (0 : Nat) = (0 : Nat) ∧ (0 :
  Nat) = (0 : Nat) ∧ List.length (heldF xs) = List.length (heldF xs) ∧ (0 : Nat) = (0 : Nat) ∧ List.length (heldF xs) = List.length (heldF xs) ∧ (0 : Nat) = (0 : Nat) ∧ (0 : Int) = Prod.snd (stateF (List.take x (heldF xs)))
  ∧ (0 : Int) = lostF (List.take x (heldF xs)) ∧ (0 : Int) = (↑x : Int) ∧ xs = xs ∧ true = true ∧ l = l ∧ true = true ∧ f = f ∧ false = false ∧ heldF xs = heldF xs ∧ false = false ∧ fillF (zero32, (0 : Int)) (heldF xs) =
  fillF (zero32, (0 : Int)) (heldF xs) ∧ false = false ∧ (0 : Int) :: List.replicate (nat_lit 31) (0 : Int) = Prod.fst (stateF (List.take x (heldF xs))) ∧ false = false) ∧ x ≤ List.length (heldF xs)) ∧ ∀ (x : Nat), x ≤
  List.length (heldF xs) → (IntKind.min IntKind.i64 ≤ (↑x : Int) ∧ (↑x : Int) ≤ IntKind.max IntKind.i64 ∧ IntKind.min IntKind.i64 ≤ Prod.snd (stateF (List.take x (heldF xs))) ∧ Prod.snd (stateF (List.take x (heldF xs))) ≤
  IntKind.max IntKind.i64 ∧ IntKind.min IntKind.i64 ≤ lostF (List.take x (heldF xs)) ∧ lostF (List.take x (heldF xs)) ≤ IntKind.max IntKind.i64 ∧ ∀ (y : List Int), List.Mem y [Prod.fst (stateF (List.take x (heldF xs)))] →
  List.length y = (32 : Nat) ∧ ∀ (y_1 : Int), List.Mem y_1 y → IntKind.min IntKind.i64 ≤ y_1 ∧ y_1 ≤ IntKind.max IntKind.i64) → bif decide ((↑x : Int) < (↑(List.length (heldF xs)) : Int)) then (((0 : Int) ≤ (↑x : Int) ∧ (↑x
  : Int) < (↑(List.length (heldF xs)) : Int)) ∧ (0 : Nat) + Int.toNat (↑x : Int) < List.length (heldF xs)) ∧ bif Prod.fst (List.getD (heldF xs) ((0 : Nat) + Int.toNat (↑x : Int)) (false, List.replicate (32 : Nat) (0 :
  Int))) then (((0 : Int) ≤ (↑x : Int) ∧ (↑x : Int) < (↑(List.length (heldF xs)) : Int)) ∧ (0 : Nat) + Int.toNat (↑x : Int) < List.length (heldF xs)) ∧ ∃ (x_1 : Nat), (((0 : Nat) = (0 : Nat) ∧ m = m ∧ nn = nn ∧ (0 : Nat) =
  (0 : Nat) ∧ (0 : Nat) = (0 : Nat) ∧ List.length (heldF xs) = List.length (heldF xs) ∧ (0 : Nat) = (0 : Nat) ∧ List.length (heldF xs) = List.length (heldF xs) ∧ (0 : Nat) = (0 : Nat) ∧ (0 : Int) = (0 : Int) ∧ lostF
  (List.take x (heldF xs)) = lostF (List.take x (heldF xs)) ∧ (↑x : Int) = (↑x : Int) ∧ (0 : Int) = (↑x_1 : Int) ∧ xs = xs ∧ true = true ∧ l = l ∧ true = true ∧ f = f ∧ false = false ∧ heldF xs = heldF xs ∧ false = false ∧
  fillF (zero32, (0 : Int)) (heldF xs) = fillF (zero32, (0 : Int)) (heldF xs) ∧ false = false ∧ Prod.snd (List.getD (heldF xs) ((0 : Nat) + Int.toNat (↑x : Int)) (false, List.replicate (32 : Nat) (0 : Int))) = Prod.snd
  (List.getD (heldF xs) ((0 : Nat) + Int.toNat (↑x : Int)) (false, List.replicate (32 : Nat) (0 : Int))) ∧ false = false) ∧ x_1 ≤ (32 : Nat)) ∧ ∀ (x_2 : Nat), x_2 ≤ (32 : Nat) → IntKind.min IntKind.i64 ≤ (↑x_2 : Int) ∧
  (↑x_2 : Int) ≤ IntKind.max IntKind.i64 → bif decide ((↑x_2 : Int) < (32 : Int)) then bif !decide ((↑(List.length (heldF xs)) : Int) = (↑(List.length (heldF xs)) : Int)) then (true = false → false = true) ∧ false = true ∧
  xs = xs ∧ true = true ∧ l = l ∧ true = true else (((0 : Int) ≤ (↑x : Int) ∧ (↑x : Int) < (↑(List.length (heldF xs)) : Int)) ∧ ((0 : Int) ≤ (↑x_2 : Int) ∧ (↑x_2 : Int) < (↑(32 : Nat) : Int)) ∧ (0 : Nat) + Int.toNat (↑x :
  Int) < List.length (fillF (zero32, (0 : Int)) (heldF xs)) ∧ Int.toNat (↑x_2 : Int) < (32 : Nat) ∧ ((0 : Int) ≤ (↑x_2 : Int) ∧ (↑x_2 : Int) < (↑(32 : Nat) : Int)) ∧ Int.toNat (↑x_2 : Int) < (32 : Nat)) ∧ bif !decide
  (List.getD (List.getD (fillF (zero32, (0 : Int)) (heldF xs)) ((0 : Nat) + Int.toNat (↑x : Int)) (List.replicate (32 : Nat) (0 : Int))) (Int.toNat (↑x_2 : Int)) (0 : Int) = refScale (List.getD (Prod.snd (List.getD (heldF
  xs) ((0 : Nat) + Int.toNat (↑x : Int)) (false, List.replicate (32 : Nat) (0 : Int)))) (Int.toNat (↑x_2 : Int)) (0 : Int)) (0 : Int)) then false = true ∧ xs = xs ∧ true = true ∧ l = l ∧ true = true else ∃ (y : Nat), ((0 :
  Nat) = (0 : Nat) ∧ m = m ∧ nn = nn ∧ (0 : Nat) = (0 : Nat) ∧ (0 : Nat) = (0 : Nat) ∧ List.length (heldF xs) = List.length (heldF xs) ∧ (0 : Nat) = (0 : Nat) ∧ List.length (heldF xs) = List.length (heldF xs) ∧ (0 : Nat) =
  (0 : Nat) ∧ (0 : Int) = (0 : Int) ∧ lostF (List.take x (heldF xs)) = lostF (List.take x (heldF xs)) ∧ (↑x : Int) = (↑x : Int) ∧ IntKind.wrap IntKind.i64 ((↑x_2 : Int) + (1 : Int)) = (↑y : Int) ∧ xs = xs ∧ true = true ∧ l
  = l ∧ true = true ∧ f = f ∧ false = false ∧ heldF xs = heldF xs ∧ false = false ∧ fillF (zero32, (0 : Int)) (heldF xs) = fillF (zero32, (0 : Int)) (heldF xs) ∧ false = false ∧ Prod.snd (List.getD (heldF xs) ((0 : Nat) +
  Int.toNat (↑x : Int)) (false, List.replicate (32 : Nat) (0 : Int))) = Prod.snd (List.getD (heldF xs) ((0 : Nat) + Int.toNat (↑x : Int)) (false, List.replicate (32 : Nat) (0 : Int))) ∧ false = false) ∧ y ≤ (32 : Nat) ∧ (32
  : Nat) - y < (32 : Nat) - x_2 else ∃ (y : Nat), ((0 : Nat) = (0 : Nat) ∧ m = m ∧ nn = nn ∧ (0 : Nat) = (0 : Nat) ∧ (0 : Nat) = (0 : Nat) ∧ List.length (heldF xs) = List.length (heldF xs) ∧ (0 : Nat) = (0 : Nat) ∧
  List.length (heldF xs) = List.length (heldF xs) ∧ (0 : Nat) = (0 : Nat) ∧ (0 : Int) = Prod.snd (stateF (List.take y (heldF xs))) ∧ lostF (List.take x (heldF xs)) = lostF (List.take y (heldF xs)) ∧ IntKind.wrap IntKind.i64
  ((↑x : Int) + (1 : Int)) = (↑y : Int) ∧ xs = xs ∧ true = true ∧ l = l ∧ true = true ∧ f = f ∧ false = false ∧ heldF xs = heldF xs ∧ false = false ∧ fillF (zero32, (0 : Int)) (heldF xs) = fillF (zero32, (0 : Int)) (heldF
  xs) ∧ false = false ∧ Prod.snd (List.getD (heldF xs) ((0 : Nat) + Int.toNat (↑x : Int)) (false, List.replicate (32 : Nat) (0 : Int))) = Prod.fst (stateF (List.take y (heldF xs))) ∧ false = false) ∧ y ≤ List.length (heldF
  xs) ∧ List.length (heldF xs) - y < List.length (heldF xs) - x else ∃ (x_1 : Nat), (((0 : Nat) = (0 : Nat) ∧ m = m ∧ nn = nn ∧ (0 : Nat) = (0 : Nat) ∧ (0 : Nat) = (0 : Nat) ∧ List.length (heldF xs) = List.length (heldF xs)
  ∧ (0 : Nat) = (0 : Nat) ∧ List.length (heldF xs) = List.length (heldF xs) ∧ (0 : Nat) = (0 : Nat) ∧ IntKind.wrap IntKind.i64 (Prod.snd (stateF (List.take x (heldF xs))) + (1 : Int)) = IntKind.wrap IntKind.i64 (Prod.snd
  (stateF (List.take x (heldF xs))) + (1 : Int)) ∧ IntKind.wrap IntKind.i64 (lostF (List.take x (heldF xs)) + (1 : Int)) = IntKind.wrap IntKind.i64 (lostF (List.take x (heldF xs)) + (1 : Int)) ∧ (↑x : Int) = (↑x : Int) ∧ (0
  : Int) = (↑x_1 : Int) ∧ xs = xs ∧ true = true ∧ l = l ∧ true = true ∧ f = f ∧ false = false ∧ heldF xs = heldF xs ∧ false = false ∧ fillF (zero32, (0 : Int)) (heldF xs) = fillF (zero32, (0 : Int)) (heldF xs) ∧ false =
  false ∧ Prod.fst (stateF (List.take x (heldF xs))) = Prod.fst (stateF (List.take x (heldF xs))) ∧ false = false) ∧ x_1 ≤ (32 : Nat)) ∧ ∀ (x_2 : Nat), x_2 ≤ (32 : Nat) → IntKind.min IntKind.i64 ≤ (↑x_2 : Int) ∧ (↑x_2 :
  Int) ≤ IntKind.max IntKind.i64 → bif decide ((↑x_2 : Int) < (32 : Int)) then bif !decide ((↑(List.length (heldF xs)) : Int) = (↑(List.length (heldF xs)) : Int)) then (true = false → false = true) ∧ false = true ∧ xs = xs
  ∧ true = true ∧ l = l ∧ true = true else (((0 : Int) ≤ (↑x : Int) ∧ (↑x : Int) < (↑(List.length (heldF xs)) : Int)) ∧ ((0 : Int) ≤ (↑x_2 : Int) ∧ (↑x_2 : Int) < (↑(32 : Nat) : Int)) ∧ (0 : Nat) + Int.toNat (↑x : Int) <
  List.length (fillF (zero32, (0 : Int)) (heldF xs)) ∧ Int.toNat (↑x_2 : Int) < (32 : Nat) ∧ ((0 : Int) ≤ (↑x_2 : Int) ∧ (↑x_2 : Int) < (↑(32 : Nat) : Int)) ∧ Int.toNat (↑x_2 : Int) < (32 : Nat)) ∧ bif !decide (List.getD
  (List.getD (fillF (zero32, (0 : Int)) (heldF xs)) ((0 : Nat) + Int.toNat (↑x : Int)) (List.replicate (32 : Nat) (0 : Int))) (Int.toNat (↑x_2 : Int)) (0 : Int) = refScale (List.getD (Prod.fst (stateF (List.take x (heldF
  xs)))) (Int.toNat (↑x_2 : Int)) (0 : Int)) (IntKind.wrap IntKind.i64 (Prod.snd (stateF (List.take x (heldF xs))) + (1 : Int)))) then false = true ∧ xs = xs ∧ true = true ∧ l = l ∧ true = true else ∃ (y : Nat), ((0 : Nat)
  = (0 : Nat) ∧ m = m ∧ nn = nn ∧ (0 : Nat) = (0 : Nat) ∧ (0 : Nat) = (0 : Nat) ∧ List.length (heldF xs) = List.length (heldF xs) ∧ (0 : Nat) = (0 : Nat) ∧ List.length (heldF xs) = List.length (heldF xs) ∧ (0 : Nat) = (0 :
  Nat) ∧ IntKind.wrap IntKind.i64 (Prod.snd (stateF (List.take x (heldF xs))) + (1 : Int)) = IntKind.wrap IntKind.i64 (Prod.snd (stateF (List.take x (heldF xs))) + (1 : Int)) ∧ IntKind.wrap IntKind.i64 (lostF (List.take x
  (heldF xs)) + (1 : Int)) = IntKind.wrap IntKind.i64 (lostF (List.take x (heldF xs)) + (1 : Int)) ∧ (↑x : Int) = (↑x : Int) ∧ IntKind.wrap IntKind.i64 ((↑x_2 : Int) + (1 : Int)) = (↑y : Int) ∧ xs = xs ∧ true = true ∧ l = l
  ∧ true = true ∧ f = f ∧ false = false ∧ heldF xs = heldF xs ∧ false = false ∧ fillF (zero32, (0 : Int)) (heldF xs) = fillF (zero32, (0 : Int)) (heldF xs) ∧ false = false ∧ Prod.fst (stateF (List.take x (heldF xs))) =
  Prod.fst (stateF (List.take x (heldF xs))) ∧ false = false) ∧ y ≤ (32 : Nat) ∧ (32 : Nat) - y < (32 : Nat) - x_2 else ∃ (y : Nat), ((0 : Nat) = (0 : Nat) ∧ m = m ∧ nn = nn ∧ (0 : Nat) = (0 : Nat) ∧ (0 : Nat) = (0 : Nat) ∧
  List.length (heldF xs) = List.length (heldF xs) ∧ (0 : Nat) = (0 : Nat) ∧ List.length (heldF xs) = List.length (heldF xs) ∧ (0 : Nat) = (0 : Nat) ∧ IntKind.wrap IntKind.i64 (Prod.snd (stateF (List.take x (heldF xs))) + (1
  : Int)) = Prod.snd (stateF (List.take y (heldF xs))) ∧ IntKind.wrap IntKind.i64 (lostF (List.take x (heldF xs)) + (1 : Int)) = lostF (List.take y (heldF xs)) ∧ IntKind.wrap IntKind.i64 ((↑x : Int) + (1 : Int)) = (↑y :
  Int) ∧ xs = xs ∧ true = true ∧ l = l ∧ true = true ∧ f = f ∧ false = false ∧ heldF xs = heldF xs ∧ false = false ∧ fillF (zero32, (0 : Int)) (heldF xs) = fillF (zero32, (0 : Int)) (heldF xs) ∧ false = false ∧ Prod.fst
  (stateF (List.take x (heldF xs))) = Prod.fst (stateF (List.take y (heldF xs))) ∧ false = false) ∧ y ≤ List.length (heldF xs) ∧ List.length (heldF xs) - y < List.length (heldF xs) - x else ∃ (x_1 : Nat), (((0 : Nat) = (0 :
  Nat) ∧ m = m ∧ nn = nn ∧ (0 : Nat) = (0 : Nat) ∧ (0 : Nat) = (0 : Nat) ∧ List.length (heldF xs) = List.length (heldF xs) ∧ lostF (List.take x (heldF xs)) = lostF (List.take x (heldF xs)) ∧ (0 : Int) = (↑x_1 : Int) ∧ xs =
  xs ∧ true = true ∧ l = l ∧ true = true ∧ f = List.take x_1 (List.map rem50 f) ++ List.drop x_1 f ∧ false = false ∧ heldF xs = heldF xs ∧ false = false) ∧ x_1 ≤ (32 : Nat)) ∧ ∀ (x_2 : Nat), x_2 ≤ (32 : Nat) → (IntKind.min
  IntKind.i64 ≤ (↑x_2 : Int) ∧ (↑x_2 : Int) ≤ IntKind.max IntKind.i64 ∧ ∀ (y : List Int), List.Mem y [List.take x_2 (List.map rem50 f) ++ List.drop x_2 f] → List.length y = (32 : Nat) ∧ ∀ (y_1 : Int), List.Mem y_1 y →
  IntKind.min IntKind.i64 ≤ y_1 ∧ y_1 ≤ IntKind.max IntKind.i64) → bif decide ((↑x_2 : Int) < (32 : Int)) then (((0 : Int) ≤ (↑x_2 : Int) ∧ (↑x_2 : Int) < (↑(32 : Nat) : Int)) ∧ Int.toNat (↑x_2 : Int) < (32 : Nat) ∧
  (1125899906842624 : Int) ≠ (0 : Int) ∧ ((0 : Int) ≤ (↑x_2 : Int) ∧ (↑x_2 : Int) < (↑(32 : Nat) : Int)) ∧ Int.toNat (↑x_2 : Int) < (32 : Nat)) ∧ ∃ (y : Nat), ((0 : Nat) = (0 : Nat) ∧ m = m ∧ nn = nn ∧ (0 : Nat) = (0 : Nat)
  ∧ (0 : Nat) = (0 : Nat) ∧ List.length (heldF xs) = List.length (heldF xs) ∧ lostF (List.take x (heldF xs)) = lostF (List.take x (heldF xs)) ∧ IntKind.wrap IntKind.i64 ((↑x_2 : Int) + (1 : Int)) = (↑y : Int) ∧ xs = xs ∧
  true = true ∧ l = l ∧ true = true ∧ List.set (List.take x_2 (List.map rem50 f) ++ List.drop x_2 f) (Int.toNat (↑x_2 : Int)) (Int.tmod (List.getD (List.take x_2 (List.map rem50 f) ++ List.drop x_2 f) (Int.toNat (↑x_2 :
  Int)) (0 : Int)) (1125899906842624 : Int)) = List.take y (List.map rem50 f) ++ List.drop y f ∧ false = false ∧ heldF xs = heldF xs ∧ false = false) ∧ y ≤ (32 : Nat) ∧ (32 : Nat) - y < (32 : Nat) - x_2 else ∃ (x_3 : Nat),
  (((0 : Nat) = (0 : Nat) ∧ m = m ∧ nn = nn ∧ (0 : Nat) = (0 : Nat) ∧ (0 : Nat) = (0 : Nat) ∧ List.length (heldF xs) = List.length (heldF xs) ∧ lostF (List.take x (heldF xs)) = lostF (List.take x (heldF xs)) ∧ (0 : Nat) =
  (0 : Nat) ∧ (0 : Int) = (↑x_3 : Int) ∧ xs = xs ∧ true = true ∧ l = l ∧ true = true ∧ List.append (List.take x_2 (List.map rem50 f)) (List.drop x_2 f) = List.take x_2 (List.map rem50 f) ++ List.drop x_2 f ∧ false = false ∧
  heldF xs = heldF xs ∧ false = false ∧ scaleF (List.take x_2 (List.map rem50 f) ++ List.drop x_2 f) nn = scaleF (List.take x_2 (List.map rem50 f) ++ List.drop x_2 f) nn ∧ false = false) ∧ x_3 ≤ (32 : Nat)) ∧ ∀ (x_4 : Nat),
  x_4 ≤ (32 : Nat) → IntKind.min IntKind.i64 ≤ (↑x_4 : Int) ∧ (↑x_4 : Int) ≤ IntKind.max IntKind.i64 → bif decide ((↑x_4 : Int) < (32 : Int)) then (((0 : Int) ≤ (↑x_4 : Int) ∧ (↑x_4 : Int) < (↑(32 : Nat) : Int)) ∧ Int.toNat
  (↑x_4 : Int) < (32 : Nat) ∧ ((0 : Int) ≤ (↑x_4 : Int) ∧ (↑x_4 : Int) < (↑(32 : Nat) : Int)) ∧ Int.toNat (↑x_4 : Int) < (32 : Nat)) ∧ bif !decide (List.getD (scaleF (List.take x_2 (List.map rem50 f) ++ List.drop x_2 f) nn)
  (Int.toNat (↑x_4 : Int)) (0 : Int) = refScale (List.getD (List.take x_2 (List.map rem50 f) ++ List.drop x_2 f) (Int.toNat (↑x_4 : Int)) (0 : Int)) nn) then false = true ∧ xs = xs ∧ true = true ∧ l = l ∧ true = true else ∃
  (y : Nat), ((0 : Nat) = (0 : Nat) ∧ m = m ∧ nn = nn ∧ (0 : Nat) = (0 : Nat) ∧ (0 : Nat) = (0 : Nat) ∧ List.length (heldF xs) = List.length (heldF xs) ∧ lostF (List.take x (heldF xs)) = lostF (List.take x (heldF xs)) ∧ (0
  : Nat) = (0 : Nat) ∧ IntKind.wrap IntKind.i64 ((↑x_4 : Int) + (1 : Int)) = (↑y : Int) ∧ xs = xs ∧ true = true ∧ l = l ∧ true = true ∧ List.append (List.take x_2 (List.map rem50 f)) (List.drop x_2 f) = List.take x_2
  (List.map rem50 f) ++ List.drop x_2 f ∧ false = false ∧ heldF xs = heldF xs ∧ false = false ∧ scaleF (List.take x_2 (List.map rem50 f) ++ List.drop x_2 f) nn = scaleF (List.take x_2 (List.map rem50 f) ++ List.drop x_2 f)
  nn ∧ false = false) ∧ y ≤ (32 : Nat) ∧ (32 : Nat) - y < (32 : Nat) - x_4 else (m = List.length l ∧ m ≤ (1000000 : Nat)) ∧ ∃ (x_5 : Nat), (((0 : Nat) = (0 : Nat) ∧ m = m ∧ (0 : Nat) = (0 : Nat) ∧ List.length (heldF xs) =
  List.length (heldF xs) ∧ lostF (List.take x (heldF xs)) = lostF (List.take x (heldF xs)) ∧ (0 : Nat) = (0 : Nat) ∧ m = m ∧ (0 : Int) = (↑x_5 : Int) ∧ xs = xs ∧ true = true ∧ l = l ∧ true = true ∧ heldF xs = heldF xs ∧
  false = false ∧ cutF l = cutF l ∧ false = false) ∧ x_5 ≤ List.length l) ∧ ∀ (x_6 : Nat), x_6 ≤ List.length l → IntKind.min IntKind.i64 ≤ (↑x_6 : Int) ∧ (↑x_6 : Int) ≤ IntKind.max IntKind.i64 → bif decide ((↑x_6 : Int) <
  (↑m : Int)) then bif !decide ((↑m : Int) = (↑m : Int)) then (true = false → false = true) ∧ false = true ∧ xs = xs ∧ true = true ∧ l = l ∧ true = true else (((0 : Int) ≤ (↑x_6 : Int) ∧ (↑x_6 : Int) < (↑m : Int)) ∧ (0 :
  Nat) + Int.toNat (↑x_6 : Int) < List.length (cutF l) ∧ ((0 : Int) ≤ (↑x_6 : Int) ∧ (↑x_6 : Int) < (↑m : Int)) ∧ (0 : Nat) + Int.toNat (↑x_6 : Int) < List.length l) ∧ bif !decide (List.getD (cutF l) ((0 : Nat) + Int.toNat
  (↑x_6 : Int)) (0 : Int) = refCut (List.getD l ((0 : Nat) + Int.toNat (↑x_6 : Int)) (0 : Int))) then false = true ∧ xs = xs ∧ true = true ∧ l = l ∧ true = true else ∃ (y : Nat), ((0 : Nat) = (0 : Nat) ∧ m = m ∧ (0 : Nat) =
  (0 : Nat) ∧ List.length (heldF xs) = List.length (heldF xs) ∧ lostF (List.take x (heldF xs)) = lostF (List.take x (heldF xs)) ∧ (0 : Nat) = (0 : Nat) ∧ m = m ∧ IntKind.wrap IntKind.i64 ((↑x_6 : Int) + (1 : Int)) = (↑y :
  Int) ∧ xs = xs ∧ true = true ∧ l = l ∧ true = true ∧ heldF xs = heldF xs ∧ false = false ∧ cutF l = cutF l ∧ false = false) ∧ y ≤ List.length l ∧ List.length l - y < List.length l - x_6 else ∀ (b : Bool), decide (lostF
  (heldF xs) = lostF (List.take x (heldF xs))) = b → (List.length (heldF xs) = List.length (heldF xs) ∧ List.length (heldF xs) ≤ (1000000 : Nat) ∧ (b = true → b = true) ∧ (b = true → b = true) ∧ (b = true → b = true ∧ b =
  true) ∧ (b = true → b = true)) ∧ (bif b then decide ((↑m : Int) = (↑m : Int)) else false) = true ∧ xs = xs ∧ true = true ∧ l = l ∧ true = true
theorem vc6 (n m : Nat) (f : List Int) (nn : Int) (xs : List (Bool × List Int)) (l : List Int) : P6 n m f nn xs l = vcFun C6 (ann6 n m f nn xs l) Go.Proofs.Try.f6 [⟨.ref .slice, .slice 0 (.cons .bool (.last (.arr 32 (.int .i64)))) [] 0 n⟩, ⟨.ref .slice, .slice 1 (.int .i64) [] 0 m⟩, ⟨.arr 32 (.int .i64), f⟩, ⟨.int .i64, nn⟩] [⟨true, false, .cons .bool (.last (.arr 32 (.int .i64))), xs⟩, ⟨true, false, .int .i64, l⟩] ⟨[n = xs.length, m = l.length], .v .bool true, [], []⟩ := by kernel_rfl

end Go.SL.A

namespace Go.SL.A
open Go Go.SL Go.SL.S

theorem refScale_ent {x n : Int} (h1 : -1125899906842624 ≤ x) (h2 : x ≤ 1125899906842624) : refScale x n = ent n x := by
  unfold refScale ent
  split
  · rfl
  split
  · rename_i h; exact (sc4 h).symm
  have d1 := tdm x (k := 4) (by decide)
  have hn : n = 1 ∨ n = 2 ∨ n = 3 := by omega
  rcases hn with rfl | rfl | rfl
  · have d2 := tdm (3 * x.tmod 4) (k := 4) (by decide)
    have d3 := tdm (3 * x) (k := 4) (by decide)
    rw [show IntKind.i64.wrap (4 - 1) = 3 by decide, w64 (n := 3 * x) (by omega) (by omega), sc1]
    rw [w64 (by omega) (by omega)]
    generalize x.tdiv 4 = q at *
    generalize x.tmod 4 = r at *
    omega
  · have d2 := tdm (2 * x.tmod 4) (k := 4) (by decide)
    have d3 := tdm (2 * x) (k := 4) (by decide)
    rw [show IntKind.i64.wrap (4 - 2) = 2 by decide, w64 (n := 2 * x) (by omega) (by omega), sc2]
    rw [w64 (by omega) (by omega)]
    generalize x.tdiv 4 = q at *
    generalize x.tmod 4 = r at *
    omega
  · have d2 := tdm (1 * x.tmod 4) (k := 4) (by decide)
    have d3 := tdm (1 * x) (k := 4) (by decide)
    rw [show IntKind.i64.wrap (4 - 3) = 1 by decide, w64 (n := 1 * x) (by omega) (by omega), sc3]
    rw [w64 (by omega) (by omega)]
    generalize x.tdiv 4 = q at *
    generalize x.tmod 4 = r at *
    omega

theorem refCut_cut (x : Int) : refCut x = cut1 x := by
  unfold refCut cut1
  split
  · omega
  · split <;> omega

theorem pure6 (n m : Nat) (f : List Int) (nn : Int) (xs : List (Bool × List Int)) (l : List Int) (hn : n = xs.length) (hm : m = l.length) (hw : f.length = 32 ∧ ∀ y ∈ xs, y.2.length = 32) : P6 n m f nn xs l := by
  subst hn hm
  obtain ⟨hfl32, hl⟩ := hw
  unfold P6
  rintro _ rfl
  refine ⟨by simp, ?_⟩
  by_cases hll : (1000 : Int) < (l.length : Int)
  · simp [hll]
  have hlen := heldF_len xs
  have hfl := fillF_len (heldF xs) (zero32, 0)
  simp only [hll, decide_false, cond_false, eq_self, true_and, and_true, Int.toNat_natCast, Nat.zero_add, decide_true, Bool.not_true, hfl]
  have hwi : ∀ k : Nat, k ≤ 1000 → IntKind.i64.wrap ((k : Int) + 1) = ((k + 1 : Nat) : Int) := fun k hk => by rw [w64 (by omega) (by omega)]; simp
  refine ⟨by omega, 0, ⟨by simp [stateF, zero32, lostF], by simp⟩, fun k hk _ => ?_⟩
  by_cases hkl : (k : Int) < ((heldF xs).length : Int)
  · have hk2 : k < (heldF xs).length := by omega
    simp only [hkl, decide_true, cond_true]
    obtain ⟨s1, s2, s3, s4⟩ := stateF_ok hl k hk
    obtain ⟨s1', s2', s3', s4'⟩ := stateF_ok hl (k + 1) (by omega)
    have hst := stateF_snoc (false, List.replicate 32 0) hk2
    have hget : (fillF (zero32, 0) (heldF xs)).getD k (List.replicate 32 0) = frameF (nextF (stateF ((heldF xs).take k)) ((heldF xs).getD k (false, List.replicate 32 0))) := by
      rw [List.getD_eq_getElem?_getD, fillF_get (heldF xs) (zero32, 0) k (false, List.replicate 32 0) hk2]; rfl
    rw [hget]
    have hlo := lostF_snoc (false, List.replicate 32 0) hk2
    have hlo2 := lostF_le ((heldF xs).take k)
    rw [List.length_take] at hlo2
    generalize (heldF xs).getD k (false, List.replicate 32 0) = g at *
    rw [hst] at s1' s2' s3' s4'
    refine ⟨by simp [hk2], ?_⟩
    have hent : ∀ j : Nat, j < 32 → (frameF (nextF (stateF ((heldF xs).take k)) g)).getD j 0 = ent (nextF (stateF ((heldF xs).take k)) g).2 ((nextF (stateF ((heldF xs).take k)) g).1.getD j 0) ∧
        -1125899906842624 ≤ (nextF (stateF ((heldF xs).take k)) g).1.getD j 0 ∧ (nextF (stateF ((heldF xs).take k)) g).1.getD j 0 ≤ 1125899906842624 := fun j hj => by
      have hj2 : j < (nextF (stateF ((heldF xs).take k)) g).1.length := by omega
      have := s2' _ (getD_mem (d := 0) hj2)
      exact ⟨scaleF_getD hj2, by omega, by omega⟩
    cases hg : g.1 with
    | true =>
      have e1 : nextF (stateF ((heldF xs).take k)) g = (g.2, 0) := by simp [nextF, hg]
      rw [hg] at hlo
      rw [e1] at hst hent ⊢
      simp only [cond_true]
      refine ⟨by simp [hk2], 0, ⟨by simp, by simp⟩, fun j hj _ => ?_⟩
      by_cases hj2 : (j : Int) < 32
      · obtain ⟨q1, q2, q3⟩ := hent j (by omega)
        simp only [hj2, decide_true, cond_true, q1, refScale_ent q2 q3, Bool.not_true, cond_false]
        exact ⟨by simp [hk2, hj2, show j < 32 by omega], j + 1, hwi j (by omega), by omega, by omega⟩
      · have : j = 32 := by omega
        subst this
        simp only [hj2, decide_false, cond_false]
        refine ⟨k + 1, ?_, by omega, by omega⟩
        rw [hst, hwi k (by omega), hlo]; simp
    | false =>
      have hw3 : IntKind.i64.wrap ((stateF ((heldF xs).take k)).2 + 1) = (stateF ((heldF xs).take k)).2 + 1 := w64 (by omega) (by omega)
      have e1 : nextF (stateF ((heldF xs).take k)) g = ((stateF ((heldF xs).take k)).1, (stateF ((heldF xs).take k)).2 + 1) := by simp [nextF, hg, hw3]
      have hw4 : IntKind.i64.wrap (lostF ((heldF xs).take k) + 1) = lostF ((heldF xs).take k) + 1 := w64 (by omega) (by omega)
      rw [hg] at hlo
      rw [e1] at hst hent ⊢
      rw [hw3, hw4]
      simp only [cond_false]
      refine ⟨0, ⟨by simp, by simp⟩, fun j hj _ => ?_⟩
      by_cases hj2 : (j : Int) < 32
      · obtain ⟨q1, q2, q3⟩ := hent j (by omega)
        simp only [hj2, decide_true, cond_true, q1, refScale_ent q2 q3, Bool.not_true, cond_false]
        exact ⟨by simp [hk2, hj2, show j < 32 by omega], j + 1, hwi j (by omega), by omega, by omega⟩
      · have : j = 32 := by omega
        subst this
        simp only [hj2, decide_false, cond_false]
        refine ⟨k + 1, ?_, by omega, by omega⟩
        rw [hst, hwi k (by omega), hlo]; simp
  have : k = (heldF xs).length := by omega
  subst this
  simp only [hkl, decide_false, cond_false]
  rw [List.take_of_length_le (Nat.le_refl _)]
  refine ⟨0, ⟨by simp, by simp⟩, fun k hk2 _ => ?_⟩
  by_cases h : (k : Int) < 32
  · simp only [h, decide_true, cond_true]
    have hkf : k < f.length := by omega
    refine ⟨by simp; omega, k + 1, ⟨hwi k (by omega), ?_⟩, by omega, by omega⟩
    have e : (List.take k (f.map rem50) ++ List.drop k f).getD k 0 = f.getD k 0 := by
      have hmin : min k f.length = k := by omega
      rw [List.getD_eq_getElem?_getD, List.getElem?_append_right (by simp; omega), List.getElem?_drop]
      simp [hmin]
    rw [e]
    exact set_step (by simp; omega) hkf (by simp [rem50, hkf])
  have : k = 32 := by omega
  subst this
  simp only [h, decide_false, cond_false]
  have eg : List.take 32 (f.map rem50) ++ List.drop 32 f = f.map rem50 := by
    rw [List.drop_eq_nil_of_le (by omega), List.append_nil, List.take_of_length_le (by simp [hfl32])]
  have eg2 : List.append (List.take 32 (f.map rem50)) (List.drop 32 f) = f.map rem50 := eg
  rw [eg, eg2]
  refine ⟨0, ⟨by simp, by simp⟩, fun j hj _ => ?_⟩
  by_cases hj2 : (j : Int) < 32
  · have hjl : j < (f.map rem50).length := by simp; omega
    have hb : -1125899906842624 ≤ (f.map rem50).getD j 0 ∧ (f.map rem50).getD j 0 ≤ 1125899906842624 := by
      have := getD_mem (d := 0) hjl
      obtain ⟨z, _, hz⟩ := List.mem_map.1 this
      have := tdm z (k := 1125899906842624) (by decide)
      rw [← hz]; unfold rem50; omega
    simp only [hj2, decide_true, cond_true, scaleF_getD hjl, refScale_ent hb.1 hb.2, Bool.not_true, cond_false]
    exact ⟨by simp [hj2, show j < 32 by omega], j + 1, ⟨hwi j (by omega), trivial⟩, by omega, by omega⟩
  have : j = 32 := by omega
  subst this
  simp only [hj2, decide_false, cond_false]
  have hcl : (cutF l).length = l.length := by simp [cutF]
  refine ⟨by omega, 0, ⟨by simp, by simp⟩, fun i hi _ => ?_⟩
  by_cases hi2 : (i : Int) < (l.length : Int)
  · have hil : i < l.length := by omega
    have e1 : (cutF l).getD i 0 = cut1 (l.getD i 0) := by simp [cutF, hil]
    simp only [hi2, decide_true, cond_true, e1, refCut_cut, Bool.not_true, cond_false]
    exact ⟨by simp [hil, hcl], i + 1, hwi i (by omega), by omega, by omega⟩
  · simp only [hi2, decide_false, cond_false]
    simp; omega

theorem hw6 {n m : Nat} {f : List Int} {nn : Int} {xs : List (Bool × List Int)} {l : List Int} (hw : allP (List.flatMap (fun a : AV => a.t.wf a.x) [⟨.ref .slice, .slice 0 (.cons .bool (.last (.arr 32 (.int .i64)))) [] 0 n⟩, ⟨.ref .slice, .slice 1 (.int .i64) [] 0 m⟩, ⟨.arr 32 (.int .i64), f⟩, ⟨.int .i64, nn⟩] ++ List.flatMap Blk.wf [⟨true, false, .cons .bool (.last (.arr 32 (.int .i64))), xs⟩, ⟨true, false, .int .i64, l⟩])) :
    f.length = 32 ∧ ∀ y ∈ xs, y.2.length = 32 := by
  simp only [List.flatMap_cons, List.flatMap_nil, Ty.wf, Blk.wf, List.append_nil, List.cons_append, List.nil_append, allP] at hw
  exact ⟨hw.1, fun y hy => (hw.2.2.2.2.1 y hy).1⟩

end Go.SL.A

/- Functions do what they are held to do. -/
namespace Go.SL.A
open Go Go.SL Go.SL.S
theorem snd6 : Sound Go.Proofs.Try.prog G6 := snd39.add ⟨_, Go.Proofs.Try.func6, by kernel_rfl, by kernel_rfl⟩ (by
  intro args ins out h hp
  unfold sp6 at h
  split at h
  · rename_i n m f nn xs l
    cases h
    exact vcFun_ok (C := C6) good snd39 Meth.none mix Go.Proofs.Try.func6 (ann6 n m f nn xs l) (fun hw => (vc6 n m f nn xs l) ▸ pure6 n m f nn xs l hp.1 hp.2 (hw6 hw))
  · cases h)

end Go.SL.A

/- FadePlays: the law returns true, whatever its arguments; each argument reads afterwards as before. No condition. -/
namespace Go.Proofs.Ythhfccnhkadkcaa
open Go Go.SL Go.SL.S Go.ChangeShapes Go.WideShapes Go.ChangeAt Go.WideMaps Go.WideElems Go.RowKit
set_option maxRecDepth 100000

theorem parsT : ((Go.Proofs.Try.f6.params.toList).all fun t => Nat.blt t Go.Proofs.Try.prog.types.size) = true := by kernel_rfl
theorem parsL : Go.Proofs.Try.f6.params.toList = [22, 33, 27, 3] := by kernel_rfl
theorem law_pure : ∀ avs bls, argsOk Go.SL.A.D Go.Proofs.Try.f6.params.toList 0 avs bls → VCall Go.Proofs.Try.prog 6 avs bls ⟨[], .v .bool true, [], []⟩ := by
  rw [parsL]
  intro avs bls h
  replace h : ∃ (t : Ty) (xs : List t.I) (avs' : List AV) (bls' : List Blk), Go.SL.A.D.ty 30 = some t ∧ avs = ⟨.ref .slice, .slice 0 t [] 0 xs.length⟩ :: avs' ∧ bls = ⟨true, false, t, xs⟩ :: bls' ∧ argsOk Go.SL.A.D [33, 27, 3] 1 avs' bls' := h
  obtain ⟨t, x0, avs, bls, ht, rfl, rfl, h⟩ := h
  obtain rfl : .cons .bool (.last (.arr 32 (.int .i64))) = t := Option.some.inj ((show (some (.cons .bool (.last (.arr 32 (.int .i64)))) : Option Ty) = Go.SL.A.D.ty 30 by kernel_rfl).trans ht)
  replace h : ∃ (t : Ty) (xs : List t.I) (avs' : List AV) (bls' : List Blk), Go.SL.A.D.ty 3 = some t ∧ avs = ⟨.ref .slice, .slice 1 t [] 0 xs.length⟩ :: avs' ∧ bls = ⟨true, false, t, xs⟩ :: bls' ∧ argsOk Go.SL.A.D [27, 3] 2 avs' bls' := h
  obtain ⟨t, x1, avs, bls, ht, rfl, rfl, h⟩ := h
  obtain rfl : .int .i64 = t := Option.some.inj ((show (some (.int .i64) : Option Ty) = Go.SL.A.D.ty 3 by kernel_rfl).trans ht)
  replace h : ∃ (t : Ty) (x : t.I) (avs' : List AV), Go.SL.A.D.ty 27 = some t ∧ avs = ⟨t, x⟩ :: avs' ∧ argsOk Go.SL.A.D [3] 2 avs' bls := h
  obtain ⟨t, x2, avs, ht, rfl, h⟩ := h
  obtain rfl : .arr 32 (.int .i64) = t := Option.some.inj ((show (some (.arr 32 (.int .i64)) : Option Ty) = Go.SL.A.D.ty 27 by kernel_rfl).trans ht)
  replace h : ∃ (t : Ty) (x : t.I) (avs' : List AV), Go.SL.A.D.ty 3 = some t ∧ avs = ⟨t, x⟩ :: avs' ∧ argsOk Go.SL.A.D [] 2 avs' bls := h
  obtain ⟨t, x3, avs, ht, rfl, h⟩ := h
  obtain rfl : .int .i64 = t := Option.some.inj ((show (some (.int .i64) : Option Ty) = Go.SL.A.D.ty 3 by kernel_rfl).trans ht)
  obtain ⟨rfl, rfl⟩ : avs = [] ∧ bls = [] := h
  have q := (Go.SL.A.snd6 6 Go.SL.A.sp6 rfl).2 [⟨.ref .slice, .slice 0 (.cons .bool (.last (.arr 32 (.int .i64)))) [] 0 x0.length⟩, ⟨.ref .slice, .slice 1 (.int .i64) [] 0 x1.length⟩, ⟨.arr 32 (.int .i64), x2⟩, ⟨.int .i64, x3⟩] [⟨true, false, .cons .bool (.last (.arr 32 (.int .i64))), x0⟩, ⟨true, false, .int .i64, x1⟩] _ rfl (⟨rfl, rfl⟩)
  exact q

theorem lifted (os : Os) (started : os.Started) (H : Type) (enc : TypeId × Value → H) :
    ReturnsInHanded {} Go.Proofs.Try.checked os 6 .any (Rows.fadePlaysSpec.pre6 enc Go.Proofs.Try.prog Go.Proofs.Try.f6 Rows.fadePlaysRow.domain false) (Rows.fadePlaysSpec.post enc Go.Proofs.Try.prog Go.Proofs.Try.f6 false true false false) := by
  refine returnsInHanded_of_change (C := Go.Proofs.Try.checked) Seat.own started (by kernel_rfl) Go.Proofs.Try.func6
    (ChangeSpec.witness6 (enc := enc) (C := Go.Proofs.Try.checked) false ⟨#[], #[.slice none 0 0, .slice none 0 0, .agg (Array.replicate 32 (.int .i64 0)), .int .i64 0], []⟩ 8 (by kernel_rfl) (by kernel_rfl) (by kernel_rfl) (by kernel_rfl)) ?_
  intro W base args ds gs before hval hW _ _
  refine law_calls (D := Go.SL.A.D) Go.SL.A.good Seat.kids Seat.slicesFull (fun t ht => Nat.le_of_ble_eq_true (List.all_eq_true.1 parsT t ht)) (by kernel_rfl) (show Go.Proofs.Try.f6.resultTypes = #[4] by kernel_rfl) Go.Proofs.Try.underlying4 rfl (fun ds h => ?_) law_pure hval hW
  have h : ds.length = 4 := h
  match ds, h with
  | [_, _, _, _], _ => rfl

theorem joined : joinedFacts Go.Proofs.Try.prog 6 Go.Proofs.Try.f6 Rows.fadePlaysSpec Rows.fadePlaysRow = true := by
  unfold joinedFacts
  exact (andT (andT (andT (andT (andT (andT (andT (andT (andT (andT (andT (andT (andT (andT (andT (andT (andT (andT (andT (andT (andT (andT (andT (andT (andT (andT (andT (andT (andT (andT (andT (by as_aux_lemma => kernel_rfl) Seat.laidOut) Seat.mapsRowed) (by as_aux_lemma => kernel_rfl)) (by as_aux_lemma => kernel_rfl)) (by as_aux_lemma => kernel_rfl)) Seat.stops) (by as_aux_lemma => kernel_rfl)) Seat.knobs) (by as_aux_lemma => kernel_rfl)) (by as_aux_lemma => kernel_rfl)) (by as_aux_lemma => kernel_rfl)) (by as_aux_lemma => kernel_rfl)) (by as_aux_lemma => kernel_rfl)) (by as_aux_lemma => kernel_rfl)) (by as_aux_lemma => kernel_rfl)) (by as_aux_lemma => kernel_rfl)) (by as_aux_lemma => kernel_rfl)) (by as_aux_lemma => kernel_rfl)) (by as_aux_lemma => kernel_rfl)) (by as_aux_lemma => kernel_rfl)) (by as_aux_lemma => kernel_rfl)) (by as_aux_lemma => kernel_rfl)) (by as_aux_lemma => kernel_rfl)) Seat.heard) Seat.mayEnter) (by rw [Seat.lifts]; rfl)) (by rw [Seat.made]; rfl)) (by as_aux_lemma => kernel_rfl)) (by as_aux_lemma => kernel_rfl)) (by as_aux_lemma => kernel_rfl)) (by as_aux_lemma => kernel_rfl))

theorem fadePlays_holds : Rows.FadePlaysSaid :=
  OpenClaim.holds_of_wide 6 Go.Proofs.Try.f6 rfl rfl rfl rfl rfl rfl rfl ⟨rfl, rfl, rfl, rfl, rfl⟩ rfl rfl rfl rfl rfl (by kernel_rfl) Go.Proofs.Try.func6 joined
    (of_decide_eq_true (by kernel_rfl)) (by unfold Func.isWrapper; first | (rw [if_pos (by decide +kernel)]; kernel_rfl) | (rw [if_neg (by decide +kernel)]; exact ⟨rfl, rfl⟩))
    (fun os started H enc _ => lifted os started H enc)

#print axioms fadePlays_holds
end Go.Proofs.Ythhfccnhkadkcaa
