/- Shapes that are right for a size; what is put into them. -/
import Derived.Test.YthhfccnhkadkcaaDoorMark
import Derived.Test.YthhfccnhkadkcaaDoorPack
import Derived.Test.YthhfccnhkadkcaaDoorGive
import Derived.Test.YthhfccnhkadkcaaDoorPulse
import Derived.Test.YthhfccnhkadkcaaDoorPvqB

/- Shapes that are right for a size: plain functions. -/
namespace Go.SL.S
open Go Go.SL
def shRow (k : List Int) (l : List Int) (b : Nat) : List Int := vecF 4 (k.getD b 0) ((l.getD b 0).tmod (countF 4 (k.getD b 0)))
def shRows (k : List Int) (l : List Int) : List (List Int) := (List.range 8).map (shRow k l)
def shape19 (side l : List Int) (size : Int) : SHM := (held8 side, shRows (refF (held8 side) (8 * size - 64)) l)
end Go.SL.S

/- Functions and what they are held to do: bound to their code. -/
namespace Go.SL.A
open Go Go.SL Go.SL.S
set_option maxRecDepth 100000
noncomputable def Cd45 : Ctx := ⟨Go.Proofs.Tryd.prog, D, Gd25, (fun _ _ => none), fun _ => []⟩
def annd45 (s : List Int × List (List Int)) (n : Int) : Nat → St → Option Ann := fun _ _ => some ⟨Nat, [6, 28], [1], fun i => [(29, .v (.int .i64) (i : Int))], fun _ => [], fun i => i ≤ 8 ∧ ((List.range i).all fun b => decide (pulsesF (s.2.getD b (List.replicate 4 0)) = (giveV s.1 (giveB n)).getD b 0)) = true, fun i => 8 - i⟩
def outd45 (s : List Int × List (List Int)) (n : Int) : COut := ⟨[], .v .bool (packR s n), [], []⟩
def spd45 : Spec := fun args ins => match args, ins with
  | [⟨(.cons (.arr 8 (.int .i64)) (.last (.arr 8 (.arr 4 (.int .i64))))), s⟩, ⟨.int .i64, n⟩], [] => some (outd45 s n)
  | _, _ => none
def Gd45 := addG Gd25 45 spd45
def Pd45 (s : List Int × List (List Int)) (n : Int) : Prop :=
  bif decide (giveB n = (0 : Int)) then (true = false → false = true) ∧ false = packR s n else bif !rightF (Prod.fst s) then false = packR s n else ∃ (x : Nat), (((0 : Nat) = (0 : Nat) ∧ Prod.snd s = Prod.snd s ∧ (0 : Int)
  = (↑x : Int) ∧ giveV (Prod.fst s) (giveB n) = giveV (Prod.fst s) (giveB n) ∧ false = false) ∧ x ≤ (8 : Nat) ∧ (List.all (List.range.loop x []) fun (b : Nat) => decide (pulsesF (List.getD (Prod.snd s) b (List.replicate (4
  : Nat) (0 : Int))) = List.getD (giveV (Prod.fst s) (giveB n)) b (0 : Int))) = true) ∧ ∀ (x : Nat), x ≤ (8 : Nat) ∧ (List.all (List.range.loop x []) fun (b : Nat) => decide (pulsesF (List.getD (Prod.snd s) b
  (List.replicate (4 : Nat) (0 : Int))) = List.getD (giveV (Prod.fst s) (giveB n)) b (0 : Int))) = true → IntKind.min IntKind.i64 ≤ (↑x : Int) ∧ (↑x : Int) ≤ IntKind.max IntKind.i64 → bif decide ((↑x : Int) < (8 : Int))
  then ((0 : Int) ≤ (↑x : Int) ∧ (↑x : Int) < (↑(8 : Nat) : Int)) ∧ ((4 : Nat) ≤ (9223372036854775807 : Nat) ∧ (4 : Nat) = List.length (List.getD (Prod.snd s) (Int.toNat (↑x : Int)) (List.replicate (4 : Nat) (0 : Int))) ∧
  ((0 : Int) ≤ (↑x : Int) ∧ (↑x : Int) < (↑(8 : Nat) : Int)) ∧ Int.toNat (↑x : Int) < (8 : Nat)) ∧ bif !decide (pulsesF (List.getD (Prod.snd s) (Int.toNat (↑x : Int)) (List.replicate (4 : Nat) (0 : Int))) = List.getD (giveV
  (Prod.fst s) (giveB n)) (Int.toNat (↑x : Int)) (0 : Int)) then false = packR s n else ∃ (y : Nat), ((0 : Nat) = (0 : Nat) ∧ Prod.snd s = Prod.snd s ∧ IntKind.wrap IntKind.i64 ((↑x : Int) + (1 : Int)) = (↑y : Int) ∧ giveV
  (Prod.fst s) (giveB n) = giveV (Prod.fst s) (giveB n) ∧ false = false) ∧ (y ≤ (8 : Nat) ∧ (List.all (List.range.loop y []) fun (b : Nat) => decide (pulsesF (List.getD (Prod.snd s) b (List.replicate (4 : Nat) (0 : Int))) =
  List.getD (giveV (Prod.fst s) (giveB n)) b (0 : Int))) = true) ∧ (8 : Nat) - y < (8 : Nat) - x else true = packR s n
theorem vcd45 (s : List Int × List (List Int)) (n : Int) : Pd45 s n = vcFun Cd45 (annd45 s n) Go.Proofs.Tryd.f45 [⟨(.cons (.arr 8 (.int .i64)) (.last (.arr 8 (.arr 4 (.int .i64))))), s⟩, ⟨.int .i64, n⟩] [] (outd45 s n) := by kernel_rfl

noncomputable def Cd26 : Ctx := ⟨Go.Proofs.Tryd.prog, D, Gd45, (fun _ _ => none), fun _ => []⟩
def annd26 (side l : List Int) (_n : Int) : Nat → St → Option Ann := fun id S => match id with | 0 => some ⟨Nat, [2, 3, 4, 6, 7], [0, 1, 2], fun i => [(8, .v (.int .i64) (i : Int))], fun i => [(3, some ⟨false, true, (.cons (.arr 8 (.int .i64)) (.last (.arr 8 (.arr 4 (.int .i64))))), [((held8 side).take i ++ (List.replicate 8 0).drop i, List.replicate 8 (List.replicate 4 0))]⟩)], fun i => i ≤ 8, fun i => 8 - i⟩ | 2 => some ⟨Nat, [4, 6, 7, 9], [1, 2, 4], fun b => [(10, .v (.int .i64) (b : Int))], fun b => [(3, some ⟨false, true, (.cons (.arr 8 (.int .i64)) (.last (.arr 8 (.arr 4 (.int .i64))))), [((S.x 3 (.cons (.arr 8 (.int .i64)) (.last (.arr 8 (.arr 4 (.int .i64)))))).1, (shRows (S.x 4 (.arr 8 (.int .i64))) l).take b ++ (List.replicate 8 (List.replicate 4 0)).drop b)]⟩)], fun b => b ≤ 8, fun b => 8 - b⟩ | _ => some ⟨Nat, [4, 6, 7, 9, 10, 12], [1, 2, 4, 5], fun i => [(14, .v (.int .i64) (i : Int))], fun i => [(3, some ⟨false, true, (.cons (.arr 8 (.int .i64)) (.last (.arr 8 (.arr 4 (.int .i64))))), [((S.x 3 (.cons (.arr 8 (.int .i64)) (.last (.arr 8 (.arr 4 (.int .i64)))))).1, List.set (S.x 3 (.cons (.arr 8 (.int .i64)) (.last (.arr 8 (.arr 4 (.int .i64)))))).2 (S.i 10).toNat ((S.xs 5 (.int .i64)).take i ++ (List.replicate 4 0).drop i))]⟩)], fun i => i ≤ 4, fun i => 4 - i⟩
def outd26 (side l : List Int) (n : Int) : COut := ⟨[12 ≤ n ∧ n ≤ 24], .v (.cons (.arr 8 (.int .i64)) (.last (.arr 8 (.arr 4 (.int .i64))))) (shape19 side l n), [], []⟩
def spd26 : Spec := fun args ins => match args, ins with
  | [⟨.arr 8 (.int .i64), side⟩, ⟨.arr 8 (.int .u32), l⟩, ⟨.int .i64, n⟩], [] => some (outd26 side l n)
  | _, _ => none
def Gd26 := addG Gd45 26 spd26
def Pd26 (side l : List Int) (n : Int) : Prop :=
  ∃ (x : Nat), ((n = n ∧ (0 : Nat) = (0 : Nat) ∧ (0 : Nat) = (0 : Nat) ∧ (0 : Nat) = (0 : Nat) ∧ (0 : Nat) = (0 : Nat) ∧ (0 : Int) = (↑x : Int) ∧ side = side ∧ false = false ∧ l = l ∧ false = false ∧ List.replicate (8 :
  Nat) (0 : Int) = List.replicate (8 : Nat) (0 : Int) ∧ List.replicate (8 : Nat) (List.replicate (4 : Nat) (0 : Int)) = List.replicate (8 : Nat) (List.replicate (4 : Nat) (0 : Int)) ∧ false = false ∧ List.replicate (8 :
  Nat) (0 : Int) = List.take x (held8 side) ++ List.drop x (List.replicate (8 : Nat) (0 : Int)) ∧ List.replicate (8 : Nat) (List.replicate (4 : Nat) (0 : Int)) = List.replicate (8 : Nat) (List.replicate (4 : Nat) (0 : Int))
  ∧ false = false) ∧ x ≤ (8 : Nat)) ∧ ∀ (x : Nat), x ≤ (8 : Nat) → (IntKind.min IntKind.i64 ≤ (↑x : Int) ∧ (↑x : Int) ≤ IntKind.max IntKind.i64 ∧ ∀ (y : List Int × List (List Int)), List.Mem y [(List.take x (held8 side) ++
  List.drop x (List.replicate (8 : Nat) (0 : Int)), List.replicate (8 : Nat) (List.replicate (4 : Nat) (0 : Int)))] → List.length (Prod.fst y) = (8 : Nat) ∧ (∀ (y_1 : Int), List.Mem y_1 (Prod.fst y) → IntKind.min
  IntKind.i64 ≤ y_1 ∧ y_1 ≤ IntKind.max IntKind.i64) ∧ List.length (Prod.snd y) = (8 : Nat) ∧ ∀ (y_1 : List Int), List.Mem y_1 (Prod.snd y) → List.length y_1 = (4 : Nat) ∧ ∀ (y : Int), List.Mem y y_1 → IntKind.min
  IntKind.i64 ≤ y ∧ y ≤ IntKind.max IntKind.i64) → bif decide ((↑x : Int) < (8 : Int)) then (((0 : Int) ≤ (↑x : Int) ∧ (↑x : Int) < (↑(8 : Nat) : Int)) ∧ Int.toNat (↑x : Int) < (8 : Nat) ∧ ((0 : Int) ≤ (↑x : Int) ∧ (↑x :
  Int) < (↑(8 : Nat) : Int)) ∧ Int.toNat (↑x : Int) < (8 : Nat)) ∧ ∃ (y : Nat), (n = n ∧ (0 : Nat) = (0 : Nat) ∧ (0 : Nat) = (0 : Nat) ∧ (0 : Nat) = (0 : Nat) ∧ (0 : Nat) = (0 : Nat) ∧ IntKind.wrap IntKind.i64 ((↑x : Int) +
  (1 : Int)) = (↑y : Int) ∧ side = side ∧ false = false ∧ l = l ∧ false = false ∧ List.replicate (8 : Nat) (0 : Int) = List.replicate (8 : Nat) (0 : Int) ∧ List.replicate (8 : Nat) (List.replicate (4 : Nat) (0 : Int)) =
  List.replicate (8 : Nat) (List.replicate (4 : Nat) (0 : Int)) ∧ false = false ∧ List.set (List.take x (held8 side) ++ List.drop x (List.replicate (8 : Nat) (0 : Int))) (Int.toNat (↑x : Int)) (iand IntKind.i64 (List.getD
  side (Int.toNat (↑x : Int)) (0 : Int)) (15 : Int)) = List.take y (held8 side) ++ List.drop y (List.replicate (8 : Nat) (0 : Int)) ∧ List.replicate (8 : Nat) (List.replicate (4 : Nat) (0 : Int)) = List.replicate (8 : Nat)
  (List.replicate (4 : Nat) (0 : Int)) ∧ false = false) ∧ y ≤ (8 : Nat) ∧ (8 : Nat) - y < (8 : Nat) - x else (rightF (List.take x (held8 side) ++ List.drop x (List.replicate (8 : Nat) (0 : Int))) = true ∧ (0 : Int) ≤
  IntKind.wrap IntKind.i64 (IntKind.wrap IntKind.i64 ((8 : Int) * n) - (64 : Int)) ∧ IntKind.wrap IntKind.i64 (IntKind.wrap IntKind.i64 ((8 : Int) * n) - (64 : Int)) ≤ (1048576 : Int)) ∧ ∃ (x_1 : Nat), (((0 : Nat) = (0 :
  Nat) ∧ (0 : Nat) = (0 : Nat) ∧ (0 : Nat) = (0 : Nat) ∧ (0 : Nat) = (0 : Nat) ∧ (0 : Int) = (↑x_1 : Int) ∧ l = l ∧ false = false ∧ List.replicate (8 : Nat) (0 : Int) = List.replicate (8 : Nat) (0 : Int) ∧ List.replicate (8
  : Nat) (List.replicate (4 : Nat) (0 : Int)) = List.replicate (8 : Nat) (List.replicate (4 : Nat) (0 : Int)) ∧ false = false ∧ List.take x (held8 side) ++ List.drop x (List.replicate (8 : Nat) (0 : Int)) = List.take x
  (held8 side) ++ List.drop x (List.replicate (8 : Nat) (0 : Int)) ∧ List.replicate (8 : Nat) (List.replicate (4 : Nat) (0 : Int)) = List.take x_1 (shRows (refF (List.take x (held8 side) ++ List.drop x (List.replicate (8 :
  Nat) (0 : Int))) (IntKind.wrap IntKind.i64 (IntKind.wrap IntKind.i64 ((8 : Int) * n) - (64 : Int)))) l) ++ List.drop x_1 (List.replicate (8 : Nat) (List.replicate (4 : Nat) (0 : Int))) ∧ false = false ∧ refF (List.take x
  (held8 side) ++ List.drop x (List.replicate (8 : Nat) (0 : Int))) (IntKind.wrap IntKind.i64 (IntKind.wrap IntKind.i64 ((8 : Int) * n) - (64 : Int))) = refF (List.take x (held8 side) ++ List.drop x (List.replicate (8 :
  Nat) (0 : Int))) (IntKind.wrap IntKind.i64 (IntKind.wrap IntKind.i64 ((8 : Int) * n) - (64 : Int))) ∧ false = false) ∧ x_1 ≤ (8 : Nat)) ∧ ∀ (x_2 : Nat), x_2 ≤ (8 : Nat) → (IntKind.min IntKind.i64 ≤ (↑x_2 : Int) ∧ (↑x_2 :
  Int) ≤ IntKind.max IntKind.i64 ∧ ∀ (y : List Int × List (List Int)), List.Mem y [(List.take x (held8 side) ++ List.drop x (List.replicate (8 : Nat) (0 : Int)), List.take x_2 (shRows (refF (List.take x (held8 side) ++
  List.drop x (List.replicate (8 : Nat) (0 : Int))) (IntKind.wrap IntKind.i64 (IntKind.wrap IntKind.i64 ((8 : Int) * n) - (64 : Int)))) l) ++ List.drop x_2 (List.replicate (8 : Nat) (List.replicate (4 : Nat) (0 : Int))))] →
  List.length (Prod.fst y) = (8 : Nat) ∧ (∀ (y_1 : Int), List.Mem y_1 (Prod.fst y) → IntKind.min IntKind.i64 ≤ y_1 ∧ y_1 ≤ IntKind.max IntKind.i64) ∧ List.length (Prod.snd y) = (8 : Nat) ∧ ∀ (y_1 : List Int), List.Mem y_1
  (Prod.snd y) → List.length y_1 = (4 : Nat) ∧ ∀ (y : Int), List.Mem y y_1 → IntKind.min IntKind.i64 ≤ y ∧ y ≤ IntKind.max IntKind.i64) → bif decide ((↑x_2 : Int) < (8 : Int)) then (((0 : Int) ≤ (↑x_2 : Int) ∧ (↑x_2 : Int)
  < (↑(8 : Nat) : Int)) ∧ Int.toNat (↑x_2 : Int) < (8 : Nat)) ∧ bif decide (countF (4 : Int) (List.getD (refF (List.take x (held8 side) ++ List.drop x (List.replicate (8 : Nat) (0 : Int))) (IntKind.wrap IntKind.i64
  (IntKind.wrap IntKind.i64 ((8 : Int) * n) - (64 : Int)))) (Int.toNat (↑x_2 : Int)) (0 : Int)) = (0 : Int)) then List.take x (held8 side) ++ List.drop x (List.replicate (8 : Nat) (0 : Int)) = Prod.fst (shape19 side l n) ∧
  List.take x_2 (shRows (refF (List.take x (held8 side) ++ List.drop x (List.replicate (8 : Nat) (0 : Int))) (IntKind.wrap IntKind.i64 (IntKind.wrap IntKind.i64 ((8 : Int) * n) - (64 : Int)))) l) ++ List.drop x_2
  (List.replicate (8 : Nat) (List.replicate (4 : Nat) (0 : Int))) = Prod.snd (shape19 side l n) else (((0 : Int) ≤ (↑x_2 : Int) ∧ (↑x_2 : Int) < (↑(8 : Nat) : Int)) ∧ Int.toNat (↑x_2 : Int) < (8 : Nat) ∧ ((0 : Int) ≤ (↑x_2 :
  Int) ∧ (↑x_2 : Int) < (↑(8 : Nat) : Int)) ∧ Int.toNat (↑x_2 : Int) < (8 : Nat) ∧ countF (4 : Int) (List.getD (refF (List.take x (held8 side) ++ List.drop x (List.replicate (8 : Nat) (0 : Int))) (IntKind.wrap IntKind.i64
  (IntKind.wrap IntKind.i64 ((8 : Int) * n) - (64 : Int)))) (Int.toNat (↑x_2 : Int)) (0 : Int)) ≠ (0 : Int)) ∧ ∃ (x_3 : Nat), (((0 : Nat) = (0 : Nat) ∧ (0 : Nat) = (0 : Nat) ∧ (0 : Nat) = (0 : Nat) ∧ (0 : Nat) = (0 : Nat) ∧
  (↑x_2 : Int) = (↑x_2 : Int) ∧ (0 : Nat) = (0 : Nat) ∧ List.length (vecF (4 : Int) (List.getD (refF (List.take x (held8 side) ++ List.drop x (List.replicate (8 : Nat) (0 : Int))) (IntKind.wrap IntKind.i64 (IntKind.wrap
  IntKind.i64 ((8 : Int) * n) - (64 : Int)))) (Int.toNat (↑x_2 : Int)) (0 : Int)) (Int.tmod (IntKind.wrap IntKind.i64 (List.getD l (Int.toNat (↑x_2 : Int)) (0 : Int))) (countF (4 : Int) (List.getD (refF (List.take x (held8
  side) ++ List.drop x (List.replicate (8 : Nat) (0 : Int))) (IntKind.wrap IntKind.i64 (IntKind.wrap IntKind.i64 ((8 : Int) * n) - (64 : Int)))) (Int.toNat (↑x_2 : Int)) (0 : Int))))) = List.length (vecF (4 : Int)
  (List.getD (refF (List.take x (held8 side) ++ List.drop x (List.replicate (8 : Nat) (0 : Int))) (IntKind.wrap IntKind.i64 (IntKind.wrap IntKind.i64 ((8 : Int) * n) - (64 : Int)))) (Int.toNat (↑x_2 : Int)) (0 : Int))
  (Int.tmod (IntKind.wrap IntKind.i64 (List.getD l (Int.toNat (↑x_2 : Int)) (0 : Int))) (countF (4 : Int) (List.getD (refF (List.take x (held8 side) ++ List.drop x (List.replicate (8 : Nat) (0 : Int))) (IntKind.wrap
  IntKind.i64 (IntKind.wrap IntKind.i64 ((8 : Int) * n) - (64 : Int)))) (Int.toNat (↑x_2 : Int)) (0 : Int))))) ∧ (0 : Int) = (↑x_3 : Int) ∧ l = l ∧ false = false ∧ List.replicate (8 : Nat) (0 : Int) = List.replicate (8 :
  Nat) (0 : Int) ∧ List.replicate (8 : Nat) (List.replicate (4 : Nat) (0 : Int)) = List.replicate (8 : Nat) (List.replicate (4 : Nat) (0 : Int)) ∧ false = false ∧ List.take x (held8 side) ++ List.drop x (List.replicate (8 :
  Nat) (0 : Int)) = List.take x (held8 side) ++ List.drop x (List.replicate (8 : Nat) (0 : Int)) ∧ List.take x_2 (shRows (refF (List.take x (held8 side) ++ List.drop x (List.replicate (8 : Nat) (0 : Int))) (IntKind.wrap
  IntKind.i64 (IntKind.wrap IntKind.i64 ((8 : Int) * n) - (64 : Int)))) l) ++ List.drop x_2 (List.replicate (8 : Nat) (List.replicate (4 : Nat) (0 : Int))) = List.set (List.take x_2 (shRows (refF (List.take x (held8 side)
  ++ List.drop x (List.replicate (8 : Nat) (0 : Int))) (IntKind.wrap IntKind.i64 (IntKind.wrap IntKind.i64 ((8 : Int) * n) - (64 : Int)))) l) ++ List.drop x_2 (List.replicate (8 : Nat) (List.replicate (4 : Nat) (0 : Int))))
  (Int.toNat (↑x_2 : Int)) (List.take x_3 (vecF (4 : Int) (List.getD (refF (List.take x (held8 side) ++ List.drop x (List.replicate (8 : Nat) (0 : Int))) (IntKind.wrap IntKind.i64 (IntKind.wrap IntKind.i64 ((8 : Int) * n) -
  (64 : Int)))) (Int.toNat (↑x_2 : Int)) (0 : Int)) (Int.tmod (IntKind.wrap IntKind.i64 (List.getD l (Int.toNat (↑x_2 : Int)) (0 : Int))) (countF (4 : Int) (List.getD (refF (List.take x (held8 side) ++ List.drop x
  (List.replicate (8 : Nat) (0 : Int))) (IntKind.wrap IntKind.i64 (IntKind.wrap IntKind.i64 ((8 : Int) * n) - (64 : Int)))) (Int.toNat (↑x_2 : Int)) (0 : Int))))) ++ List.drop x_3 (List.replicate (4 : Nat) (0 : Int))) ∧
  false = false ∧ refF (List.take x (held8 side) ++ List.drop x (List.replicate (8 : Nat) (0 : Int))) (IntKind.wrap IntKind.i64 (IntKind.wrap IntKind.i64 ((8 : Int) * n) - (64 : Int))) = refF (List.take x (held8 side) ++
  List.drop x (List.replicate (8 : Nat) (0 : Int))) (IntKind.wrap IntKind.i64 (IntKind.wrap IntKind.i64 ((8 : Int) * n) - (64 : Int))) ∧ false = false ∧ vecF (4 : Int) (List.getD (refF (List.take x (held8 side) ++ List.drop
  x (List.replicate (8 : Nat) (0 : Int))) (IntKind.wrap IntKind.i64 (IntKind.wrap IntKind.i64 ((8 : Int) * n) - (64 : Int)))) (Int.toNat (↑x_2 : Int)) (0 : Int)) (Int.tmod (IntKind.wrap IntKind.i64 (List.getD l (Int.toNat
  (↑x_2 : Int)) (0 : Int))) (countF (4 : Int) (List.getD (refF (List.take x (held8 side) ++ List.drop x (List.replicate (8 : Nat) (0 : Int))) (IntKind.wrap IntKind.i64 (IntKind.wrap IntKind.i64 ((8 : Int) * n) - (64 :
  Int)))) (Int.toNat (↑x_2 : Int)) (0 : Int)))) = vecF (4 : Int) (List.getD (refF (List.take x (held8 side) ++ List.drop x (List.replicate (8 : Nat) (0 : Int))) (IntKind.wrap IntKind.i64 (IntKind.wrap IntKind.i64 ((8 : Int)
  * n) - (64 : Int)))) (Int.toNat (↑x_2 : Int)) (0 : Int)) (Int.tmod (IntKind.wrap IntKind.i64 (List.getD l (Int.toNat (↑x_2 : Int)) (0 : Int))) (countF (4 : Int) (List.getD (refF (List.take x (held8 side) ++ List.drop x
  (List.replicate (8 : Nat) (0 : Int))) (IntKind.wrap IntKind.i64 (IntKind.wrap IntKind.i64 ((8 : Int) * n) - (64 : Int)))) (Int.toNat (↑x_2 : Int)) (0 : Int)))) ∧ false = false) ∧ x_3 ≤ (4 : Nat)) ∧ ∀ (x_4 : Nat), x_4 ≤ (4
  : Nat) → (IntKind.min IntKind.i64 ≤ (↑x_4 : Int) ∧ (↑x_4 : Int) ≤ IntKind.max IntKind.i64 ∧ ∀ (y : List Int × List (List Int)), List.Mem y [(List.take x (held8 side) ++ List.drop x (List.replicate (8 : Nat) (0 : Int)),
  List.set (List.take x_2 (shRows (refF (List.take x (held8 side) ++ List.drop x (List.replicate (8 : Nat) (0 : Int))) (IntKind.wrap IntKind.i64 (IntKind.wrap IntKind.i64 ((8 : Int) * n) - (64 : Int)))) l) ++ List.drop x_2
  (List.replicate (8 : Nat) (List.replicate (4 : Nat) (0 : Int)))) (Int.toNat (↑x_2 : Int)) (List.take x_4 (vecF (4 : Int) (List.getD (refF (List.take x (held8 side) ++ List.drop x (List.replicate (8 : Nat) (0 : Int)))
  (IntKind.wrap IntKind.i64 (IntKind.wrap IntKind.i64 ((8 : Int) * n) - (64 : Int)))) (Int.toNat (↑x_2 : Int)) (0 : Int)) (Int.tmod (IntKind.wrap IntKind.i64 (List.getD l (Int.toNat (↑x_2 : Int)) (0 : Int))) (countF (4 :
  Int) (List.getD (refF (List.take x (held8 side) ++ List.drop x (List.replicate (8 : Nat) (0 : Int))) (IntKind.wrap IntKind.i64 (IntKind.wrap IntKind.i64 ((8 : Int) * n) - (64 : Int)))) (Int.toNat (↑x_2 : Int)) (0 :
  Int))))) ++ List.drop x_4 (List.replicate (4 : Nat) (0 : Int))))] → List.length (Prod.fst y) = (8 : Nat) ∧ (∀ (y_1 : Int), List.Mem y_1 (Prod.fst y) → IntKind.min IntKind.i64 ≤ y_1 ∧ y_1 ≤ IntKind.max IntKind.i64) ∧
  List.length (Prod.snd y) = (8 : Nat) ∧ ∀ (y_1 : List Int), List.Mem y_1 (Prod.snd y) → List.length y_1 = (4 : Nat) ∧ ∀ (y : Int), List.Mem y y_1 → IntKind.min IntKind.i64 ≤ y ∧ y ≤ IntKind.max IntKind.i64) → ∀ (b : Bool),
  decide ((↑x_4 : Int) < (4 : Int)) = b → ((b = true → b = true) ∧ (b = true → b = true) ∧ (b = true → b = true)) ∧ bif bif b then decide ((↑(List.length (vecF (4 : Int) (List.getD (refF (List.take x (held8 side) ++
  List.drop x (List.replicate (8 : Nat) (0 : Int))) (IntKind.wrap IntKind.i64 (IntKind.wrap IntKind.i64 ((8 : Int) * n) - (64 : Int)))) (Int.toNat (↑x_2 : Int)) (0 : Int)) (Int.tmod (IntKind.wrap IntKind.i64 (List.getD l
  (Int.toNat (↑x_2 : Int)) (0 : Int))) (countF (4 : Int) (List.getD (refF (List.take x (held8 side) ++ List.drop x (List.replicate (8 : Nat) (0 : Int))) (IntKind.wrap IntKind.i64 (IntKind.wrap IntKind.i64 ((8 : Int) * n) -
  (64 : Int)))) (Int.toNat (↑x_2 : Int)) (0 : Int)))))) : Int) = (4 : Int)) else false then (((0 : Int) ≤ (↑x_4 : Int) ∧ (↑x_4 : Int) < (↑(List.length (vecF (4 : Int) (List.getD (refF (List.take x (held8 side) ++ List.drop
  x (List.replicate (8 : Nat) (0 : Int))) (IntKind.wrap IntKind.i64 (IntKind.wrap IntKind.i64 ((8 : Int) * n) - (64 : Int)))) (Int.toNat (↑x_2 : Int)) (0 : Int)) (Int.tmod (IntKind.wrap IntKind.i64 (List.getD l (Int.toNat
  (↑x_2 : Int)) (0 : Int))) (countF (4 : Int) (List.getD (refF (List.take x (held8 side) ++ List.drop x (List.replicate (8 : Nat) (0 : Int))) (IntKind.wrap IntKind.i64 (IntKind.wrap IntKind.i64 ((8 : Int) * n) - (64 :
  Int)))) (Int.toNat (↑x_2 : Int)) (0 : Int)))))) : Int)) ∧ (0 : Nat) + Int.toNat (↑x_4 : Int) < List.length (vecF (4 : Int) (List.getD (refF (List.take x (held8 side) ++ List.drop x (List.replicate (8 : Nat) (0 : Int)))
  (IntKind.wrap IntKind.i64 (IntKind.wrap IntKind.i64 ((8 : Int) * n) - (64 : Int)))) (Int.toNat (↑x_2 : Int)) (0 : Int)) (Int.tmod (IntKind.wrap IntKind.i64 (List.getD l (Int.toNat (↑x_2 : Int)) (0 : Int))) (countF (4 :
  Int) (List.getD (refF (List.take x (held8 side) ++ List.drop x (List.replicate (8 : Nat) (0 : Int))) (IntKind.wrap IntKind.i64 (IntKind.wrap IntKind.i64 ((8 : Int) * n) - (64 : Int)))) (Int.toNat (↑x_2 : Int)) (0 :
  Int))))) ∧ ((0 : Int) ≤ (↑x_2 : Int) ∧ (↑x_2 : Int) < (↑(8 : Nat) : Int)) ∧ ((0 : Int) ≤ (↑x_4 : Int) ∧ (↑x_4 : Int) < (↑(4 : Nat) : Int)) ∧ Int.toNat (↑x_2 : Int) < (8 : Nat) ∧ Int.toNat (↑x_4 : Int) < (4 : Nat)) ∧ ∃ (y
  : Nat), ((0 : Nat) = (0 : Nat) ∧ (0 : Nat) = (0 : Nat) ∧ (0 : Nat) = (0 : Nat) ∧ (0 : Nat) = (0 : Nat) ∧ (↑x_2 : Int) = (↑x_2 : Int) ∧ (0 : Nat) = (0 : Nat) ∧ List.length (vecF (4 : Int) (List.getD (refF (List.take x
  (held8 side) ++ List.drop x (List.replicate (8 : Nat) (0 : Int))) (IntKind.wrap IntKind.i64 (IntKind.wrap IntKind.i64 ((8 : Int) * n) - (64 : Int)))) (Int.toNat (↑x_2 : Int)) (0 : Int)) (Int.tmod (IntKind.wrap IntKind.i64
  (List.getD l (Int.toNat (↑x_2 : Int)) (0 : Int))) (countF (4 : Int) (List.getD (refF (List.take x (held8 side) ++ List.drop x (List.replicate (8 : Nat) (0 : Int))) (IntKind.wrap IntKind.i64 (IntKind.wrap IntKind.i64 ((8 :
  Int) * n) - (64 : Int)))) (Int.toNat (↑x_2 : Int)) (0 : Int))))) = List.length (vecF (4 : Int) (List.getD (refF (List.take x (held8 side) ++ List.drop x (List.replicate (8 : Nat) (0 : Int))) (IntKind.wrap IntKind.i64
  (IntKind.wrap IntKind.i64 ((8 : Int) * n) - (64 : Int)))) (Int.toNat (↑x_2 : Int)) (0 : Int)) (Int.tmod (IntKind.wrap IntKind.i64 (List.getD l (Int.toNat (↑x_2 : Int)) (0 : Int))) (countF (4 : Int) (List.getD (refF
  (List.take x (held8 side) ++ List.drop x (List.replicate (8 : Nat) (0 : Int))) (IntKind.wrap IntKind.i64 (IntKind.wrap IntKind.i64 ((8 : Int) * n) - (64 : Int)))) (Int.toNat (↑x_2 : Int)) (0 : Int))))) ∧ IntKind.wrap
  IntKind.i64 ((↑x_4 : Int) + (1 : Int)) = (↑y : Int) ∧ l = l ∧ false = false ∧ List.replicate (8 : Nat) (0 : Int) = List.replicate (8 : Nat) (0 : Int) ∧ List.replicate (8 : Nat) (List.replicate (4 : Nat) (0 : Int)) =
  List.replicate (8 : Nat) (List.replicate (4 : Nat) (0 : Int)) ∧ false = false ∧ List.take x (held8 side) ++ List.drop x (List.replicate (8 : Nat) (0 : Int)) = List.take x (held8 side) ++ List.drop x (List.replicate (8 :
  Nat) (0 : Int)) ∧ List.set (List.set (List.take x_2 (shRows (refF (List.take x (held8 side) ++ List.drop x (List.replicate (8 : Nat) (0 : Int))) (IntKind.wrap IntKind.i64 (IntKind.wrap IntKind.i64 ((8 : Int) * n) - (64 :
  Int)))) l) ++ List.drop x_2 (List.replicate (8 : Nat) (List.replicate (4 : Nat) (0 : Int)))) (Int.toNat (↑x_2 : Int)) (List.take x_4 (vecF (4 : Int) (List.getD (refF (List.take x (held8 side) ++ List.drop x
  (List.replicate (8 : Nat) (0 : Int))) (IntKind.wrap IntKind.i64 (IntKind.wrap IntKind.i64 ((8 : Int) * n) - (64 : Int)))) (Int.toNat (↑x_2 : Int)) (0 : Int)) (Int.tmod (IntKind.wrap IntKind.i64 (List.getD l (Int.toNat
  (↑x_2 : Int)) (0 : Int))) (countF (4 : Int) (List.getD (refF (List.take x (held8 side) ++ List.drop x (List.replicate (8 : Nat) (0 : Int))) (IntKind.wrap IntKind.i64 (IntKind.wrap IntKind.i64 ((8 : Int) * n) - (64 :
  Int)))) (Int.toNat (↑x_2 : Int)) (0 : Int))))) ++ List.drop x_4 (List.replicate (4 : Nat) (0 : Int)))) (Int.toNat (↑x_2 : Int)) (List.set (List.getD (List.set (List.take x_2 (shRows (refF (List.take x (held8 side) ++
  List.drop x (List.replicate (8 : Nat) (0 : Int))) (IntKind.wrap IntKind.i64 (IntKind.wrap IntKind.i64 ((8 : Int) * n) - (64 : Int)))) l) ++ List.drop x_2 (List.replicate (8 : Nat) (List.replicate (4 : Nat) (0 : Int))))
  (Int.toNat (↑x_2 : Int)) (List.take x_4 (vecF (4 : Int) (List.getD (refF (List.take x (held8 side) ++ List.drop x (List.replicate (8 : Nat) (0 : Int))) (IntKind.wrap IntKind.i64 (IntKind.wrap IntKind.i64 ((8 : Int) * n) -
  (64 : Int)))) (Int.toNat (↑x_2 : Int)) (0 : Int)) (Int.tmod (IntKind.wrap IntKind.i64 (List.getD l (Int.toNat (↑x_2 : Int)) (0 : Int))) (countF (4 : Int) (List.getD (refF (List.take x (held8 side) ++ List.drop x
  (List.replicate (8 : Nat) (0 : Int))) (IntKind.wrap IntKind.i64 (IntKind.wrap IntKind.i64 ((8 : Int) * n) - (64 : Int)))) (Int.toNat (↑x_2 : Int)) (0 : Int))))) ++ List.drop x_4 (List.replicate (4 : Nat) (0 : Int))))
  (Int.toNat (↑x_2 : Int)) (List.replicate (4 : Nat) (0 : Int))) (Int.toNat (↑x_4 : Int)) (List.getD (vecF (4 : Int) (List.getD (refF (List.take x (held8 side) ++ List.drop x (List.replicate (8 : Nat) (0 : Int)))
  (IntKind.wrap IntKind.i64 (IntKind.wrap IntKind.i64 ((8 : Int) * n) - (64 : Int)))) (Int.toNat (↑x_2 : Int)) (0 : Int)) (Int.tmod (IntKind.wrap IntKind.i64 (List.getD l (Int.toNat (↑x_2 : Int)) (0 : Int))) (countF (4 :
  Int) (List.getD (refF (List.take x (held8 side) ++ List.drop x (List.replicate (8 : Nat) (0 : Int))) (IntKind.wrap IntKind.i64 (IntKind.wrap IntKind.i64 ((8 : Int) * n) - (64 : Int)))) (Int.toNat (↑x_2 : Int)) (0 :
  Int))))) ((0 : Nat) + Int.toNat (↑x_4 : Int)) (0 : Int))) = List.set (List.take x_2 (shRows (refF (List.take x (held8 side) ++ List.drop x (List.replicate (8 : Nat) (0 : Int))) (IntKind.wrap IntKind.i64 (IntKind.wrap
  IntKind.i64 ((8 : Int) * n) - (64 : Int)))) l) ++ List.drop x_2 (List.replicate (8 : Nat) (List.replicate (4 : Nat) (0 : Int)))) (Int.toNat (↑x_2 : Int)) (List.take y (vecF (4 : Int) (List.getD (refF (List.take x (held8
  side) ++ List.drop x (List.replicate (8 : Nat) (0 : Int))) (IntKind.wrap IntKind.i64 (IntKind.wrap IntKind.i64 ((8 : Int) * n) - (64 : Int)))) (Int.toNat (↑x_2 : Int)) (0 : Int)) (Int.tmod (IntKind.wrap IntKind.i64
  (List.getD l (Int.toNat (↑x_2 : Int)) (0 : Int))) (countF (4 : Int) (List.getD (refF (List.take x (held8 side) ++ List.drop x (List.replicate (8 : Nat) (0 : Int))) (IntKind.wrap IntKind.i64 (IntKind.wrap IntKind.i64 ((8 :
  Int) * n) - (64 : Int)))) (Int.toNat (↑x_2 : Int)) (0 : Int))))) ++ List.drop y (List.replicate (4 : Nat) (0 : Int))) ∧ false = false ∧ refF (List.take x (held8 side) ++ List.drop x (List.replicate (8 : Nat) (0 : Int)))
  (IntKind.wrap IntKind.i64 (IntKind.wrap IntKind.i64 ((8 : Int) * n) - (64 : Int))) = refF (List.take x (held8 side) ++ List.drop x (List.replicate (8 : Nat) (0 : Int))) (IntKind.wrap IntKind.i64 (IntKind.wrap IntKind.i64
  ((8 : Int) * n) - (64 : Int))) ∧ false = false ∧ vecF (4 : Int) (List.getD (refF (List.take x (held8 side) ++ List.drop x (List.replicate (8 : Nat) (0 : Int))) (IntKind.wrap IntKind.i64 (IntKind.wrap IntKind.i64 ((8 :
  Int) * n) - (64 : Int)))) (Int.toNat (↑x_2 : Int)) (0 : Int)) (Int.tmod (IntKind.wrap IntKind.i64 (List.getD l (Int.toNat (↑x_2 : Int)) (0 : Int))) (countF (4 : Int) (List.getD (refF (List.take x (held8 side) ++ List.drop
  x (List.replicate (8 : Nat) (0 : Int))) (IntKind.wrap IntKind.i64 (IntKind.wrap IntKind.i64 ((8 : Int) * n) - (64 : Int)))) (Int.toNat (↑x_2 : Int)) (0 : Int)))) = vecF (4 : Int) (List.getD (refF (List.take x (held8 side)
  ++ List.drop x (List.replicate (8 : Nat) (0 : Int))) (IntKind.wrap IntKind.i64 (IntKind.wrap IntKind.i64 ((8 : Int) * n) - (64 : Int)))) (Int.toNat (↑x_2 : Int)) (0 : Int)) (Int.tmod (IntKind.wrap IntKind.i64 (List.getD l
  (Int.toNat (↑x_2 : Int)) (0 : Int))) (countF (4 : Int) (List.getD (refF (List.take x (held8 side) ++ List.drop x (List.replicate (8 : Nat) (0 : Int))) (IntKind.wrap IntKind.i64 (IntKind.wrap IntKind.i64 ((8 : Int) * n) -
  (64 : Int)))) (Int.toNat (↑x_2 : Int)) (0 : Int)))) ∧ false = false) ∧ y ≤ (4 : Nat) ∧ (4 : Nat) - y < (4 : Nat) - x_4 else ∃ (y : Nat), ((0 : Nat) = (0 : Nat) ∧ (0 : Nat) = (0 : Nat) ∧ (0 : Nat) = (0 : Nat) ∧ (0 : Nat) =
  (0 : Nat) ∧ IntKind.wrap IntKind.i64 ((↑x_2 : Int) + (1 : Int)) = (↑y : Int) ∧ l = l ∧ false = false ∧ List.replicate (8 : Nat) (0 : Int) = List.replicate (8 : Nat) (0 : Int) ∧ List.replicate (8 : Nat) (List.replicate (4
  : Nat) (0 : Int)) = List.replicate (8 : Nat) (List.replicate (4 : Nat) (0 : Int)) ∧ false = false ∧ List.take x (held8 side) ++ List.drop x (List.replicate (8 : Nat) (0 : Int)) = List.take x (held8 side) ++ List.drop x
  (List.replicate (8 : Nat) (0 : Int)) ∧ List.set (List.take x_2 (shRows (refF (List.take x (held8 side) ++ List.drop x (List.replicate (8 : Nat) (0 : Int))) (IntKind.wrap IntKind.i64 (IntKind.wrap IntKind.i64 ((8 : Int) *
  n) - (64 : Int)))) l) ++ List.drop x_2 (List.replicate (8 : Nat) (List.replicate (4 : Nat) (0 : Int)))) (Int.toNat (↑x_2 : Int)) (List.take x_4 (vecF (4 : Int) (List.getD (refF (List.take x (held8 side) ++ List.drop x
  (List.replicate (8 : Nat) (0 : Int))) (IntKind.wrap IntKind.i64 (IntKind.wrap IntKind.i64 ((8 : Int) * n) - (64 : Int)))) (Int.toNat (↑x_2 : Int)) (0 : Int)) (Int.tmod (IntKind.wrap IntKind.i64 (List.getD l (Int.toNat
  (↑x_2 : Int)) (0 : Int))) (countF (4 : Int) (List.getD (refF (List.take x (held8 side) ++ List.drop x (List.replicate (8 : Nat) (0 : Int))) (IntKind.wrap IntKind.i64 (IntKind.wrap IntKind.i64 ((8 : Int) * n) - (64 :
  Int)))) (Int.toNat (↑x_2 : Int)) (0 : Int))))) ++ List.drop x_4 (List.replicate (4 : Nat) (0 : Int))) = List.take y (shRows (refF (List.take x (held8 side) ++ List.drop x (List.replicate (8 : Nat) (0 : Int)))
  (IntKind.wrap IntKind.i64 (IntKind.wrap IntKind.i64 ((8 : Int) * n) - (64 : Int)))) l) ++ List.drop y (List.replicate (8 : Nat) (List.replicate (4 : Nat) (0 : Int))) ∧ false = false ∧ refF (List.take x (held8 side) ++
  List.drop x (List.replicate (8 : Nat) (0 : Int))) (IntKind.wrap IntKind.i64 (IntKind.wrap IntKind.i64 ((8 : Int) * n) - (64 : Int))) = refF (List.take x (held8 side) ++ List.drop x (List.replicate (8 : Nat) (0 : Int)))
  (IntKind.wrap IntKind.i64 (IntKind.wrap IntKind.i64 ((8 : Int) * n) - (64 : Int))) ∧ false = false) ∧ y ≤ (8 : Nat) ∧ (8 : Nat) - y < (8 : Nat) - x_2 else List.take x (held8 side) ++ List.drop x (List.replicate (8 : Nat)
  (0 : Int)) = Prod.fst (shape19 side l n) ∧ List.take x_2 (shRows (refF (List.take x (held8 side) ++ List.drop x (List.replicate (8 : Nat) (0 : Int))) (IntKind.wrap IntKind.i64 (IntKind.wrap IntKind.i64 ((8 : Int) * n) -
  (64 : Int)))) l) ++ List.drop x_2 (List.replicate (8 : Nat) (List.replicate (4 : Nat) (0 : Int))) = Prod.snd (shape19 side l n)
theorem vcd26 (side l : List Int) (n : Int) : Pd26 side l n = vcFun Cd26 (annd26 side l n) Go.Proofs.Tryd.f26 [⟨.arr 8 (.int .i64), side⟩, ⟨.arr 8 (.int .u32), l⟩, ⟨.int .i64, n⟩] [] (outd26 side l n) := by kernel_rfl

noncomputable def Cd14 : Ctx := ⟨Go.Proofs.Tryd.prog, D, Gd26, (fun _ _ => none), fun r => match r with | 3 => [1] | _ => []⟩
def annd14  : Nat → St → Option Ann := fun _ _ => none
def outd14  : COut := ⟨[], .v .bool true, [], []⟩
def spd14 : Spec := fun args ins => match args, ins with
  | [], [] => some outd14
  | _, _ => none
def Gd14 := addG Gd26 14 spd14
def Pd14  : Prop :=
  ∀ (n : Int), bandK (List.replicate (16 : Nat) (0 : Int)) (3 : Int) = n → (((0 : Int) ≤ n ∧ n < (↑(8 : Nat) : Int)) ∧ Int.toNat n < (8 : Nat)) ∧ bif Prod.snd (putM (List.replicate (16 : Nat) (0 : Int)) (3 : Int) true
  (List.replicate (8 : Nat) (0 : Int), List.set (List.replicate (8 : Nat) (List.replicate (4 : Nat) (0 : Int))) (Int.toNat n) ((1 : Int) :: List.set (List.set (List.set (List.replicate (nat_lit 3) (0 : Int)) (nat_lit 0) (1
  : Int)) (nat_lit 1) (0 : Int)) (nat_lit 2) (0 : Int)))) then bif decide (spkF (corrF (List.replicate (16 : Nat) (0 : Int)) (3 : Int) (Prod.fst (Prod.fst (putM (List.replicate (16 : Nat) (0 : Int)) (3 : Int) true
  (List.replicate (8 : Nat) (0 : Int), List.set (List.replicate (8 : Nat) (List.replicate (4 : Nat) (0 : Int))) (Int.toNat n) ((1 : Int) :: List.set (List.set (List.set (List.replicate (nat_lit 3) (0 : Int)) (nat_lit 0) (1
  : Int)) (nat_lit 1) (0 : Int)) (nat_lit 2) (0 : Int))))), Prod.snd (Prod.fst (putM (List.replicate (16 : Nat) (0 : Int)) (3 : Int) true (List.replicate (8 : Nat) (0 : Int), List.set (List.replicate (8 : Nat)
  (List.replicate (4 : Nat) (0 : Int))) (Int.toNat n) ((1 : Int) :: List.set (List.set (List.set (List.replicate (nat_lit 3) (0 : Int)) (nat_lit 0) (1 : Int)) (nat_lit 1) (0 : Int)) (nat_lit 2) (0 : Int))))))) = (-1 : Int))
  then (!Prod.snd (putM (List.replicate (16 : Nat) (0 : Int)) (3 : Int) true (List.replicate (8 : Nat) (0 : Int), List.replicate (8 : Nat) (List.replicate (4 : Nat) (0 : Int))))) = true else (false = true → false = true) ∧
  false = true else ((false = true → false = true) ∧ (false = true → false = true)) ∧ false = true
theorem vcd14 : Pd14  = vcFun Cd14 (annd14 ) Go.Proofs.Tryd.f14 [] [] outd14 := by kernel_rfl

end Go.SL.A

/- Shapes that are right for a size; the document's example. -/
namespace Go.SL.A
open Go Go.SL Go.SL.S
set_option maxRecDepth 100000

theorem hwd45 {s : List Int × List (List Int)} {n : Int} (hw : Go.SL.allP (List.flatMap (fun a : AV => a.t.wf a.x) [⟨(.cons (.arr 8 (.int .i64)) (.last (.arr 8 (.arr 4 (.int .i64))))), s⟩, ⟨.int .i64, n⟩] ++ List.flatMap Blk.wf [])) : s.2.length = 8 ∧ ∀ y ∈ s.2, y.length = 4 := by
  simp only [List.flatMap_cons, List.flatMap_nil, Ty.wf, List.append_nil, List.cons_append, List.nil_append, Go.SL.allP] at hw
  exact ⟨hw.2.2.1, fun y hy => (hw.2.2.2.1 y hy).1⟩
theorem pured45 (s : List Int × List (List Int)) (n : Int) (hl : s.2.length = 8 ∧ ∀ y ∈ s.2, y.length = 4) : Pd45 s n := by
  unfold Pd45
  by_cases h0 : giveB n = 0
  · have e : packR s n = false := by unfold packR; rw [if_pos (Or.inl h0)]
    rw [decide_eq_true h0, cond_true, e]
    and_intros <;> simp
  · rw [decide_eq_false h0, cond_false]
    cases hr : rightF s.1 with
    | false =>
      have e : packR s n = false := by unfold packR; rw [if_pos (Or.inr hr)]
      rw [Bool.not_false, cond_true, e]
    | true =>
      have e : packR s n = (List.range 8).all fun b => decide (pulsesF (s.2.getD b (List.replicate 4 0)) = (giveV s.1 (giveB n)).getD b 0) := by
        unfold packR; rw [if_neg (by rw [hr]; simp [h0])]
      rw [Bool.not_true, cond_false, e]
      generalize giveV s.1 (giveB n) = k
      simp only [eq_self, true_and, and_true, Int.toNat_natCast]
      refine ⟨0, ⟨rfl, by omega, rfl⟩, fun i hi hw => ?_⟩
      clear hw
      obtain ⟨hi, ho⟩ := hi
      have ho : ((List.range i).all fun b => decide (pulsesF (s.2.getD b (List.replicate 4 0)) = k.getD b 0)) = true := ho
      by_cases h : (i : Int) < 8
      · have hyl := hl.2 _ (getD_mem (d := List.replicate 4 0) (f := s.2) (k := i) (by omega))
        rw [decide_eq_true h, cond_true]
        refine ⟨⟨by omega, by omega⟩, ⟨by decide, hyl.symm, ⟨by omega, by omega⟩, by omega⟩, ?_⟩
        cases hc : decide (pulsesF (s.2.getD i (List.replicate 4 0)) = k.getD i 0) with
        | true =>
          rw [Bool.not_true, cond_false]
          refine ⟨i + 1, step_i (by omega), ⟨by omega, ?_⟩, by omega⟩
          show ((List.range (i + 1)).all _) = true
          rw [List.range_succ, List.all_append, ho]
          simp
          exact of_decide_eq_true hc
        | false =>
          rw [Bool.not_false, cond_true]
          symm
          rw [List.all_eq_false]
          exact ⟨i, List.mem_range.2 (by omega), by rw [hc]; simp⟩
      · have : i = 8 := by omega
        subst this
        rw [decide_eq_false h, cond_false, ho]

theorem hwd26 {side l : List Int} {n : Int} (hw : Go.SL.allP (List.flatMap (fun a : AV => a.t.wf a.x) [⟨.arr 8 (.int .i64), side⟩, ⟨.arr 8 (.int .u32), l⟩, ⟨.int .i64, n⟩] ++ List.flatMap Blk.wf [])) : side.length = 8 ∧ l.length = 8 ∧ ∀ x ∈ l, 0 ≤ x ∧ x ≤ 4294967295 := by
  simp only [List.flatMap_cons, List.flatMap_nil, Ty.wf, List.append_nil, List.cons_append, List.nil_append, Go.SL.allP] at hw
  refine ⟨hw.1, hw.2.2.1, fun x hx => ?_⟩
  have h := hw.2.2.2.1 x hx
  have e1 : IntKind.u32.min = 0 := by decide
  have e2 : IntKind.u32.max = 4294967295 := by decide
  rw [e1, e2] at h; exact h
theorem count_pos {q : Int} (h : 0 ≤ q ∧ q ≤ 12) : 0 < countF 4 q := by
  unfold countF
  rw [if_pos (may_iff.2 (by omega))]
  have := cnt_pos 3 q.toNat
  exact this
theorem giveK (side : List Int) {n : Int} (hn : 12 ≤ n ∧ n ≤ 24) (b : Nat) (hb : b < 8) : 0 ≤ (refF (held8 side) (8 * n - 64)).getD b 0 ∧ (refF (held8 side) (8 * n - 64)).getD b 0 ≤ 12 := by
  rw [← give_eq (held8 side) (B := 8 * n - 64) (by omega)]
  obtain ⟨_, _, _, _, h⟩ := give_end (held8 side) (B := 8 * n - 64) (by omega)
  exact (h b hb).1
theorem rem_fit {x c : Int} (hx : 0 ≤ x) (hc : 0 < c) : 0 ≤ x.tmod c ∧ x.tmod c < c := by
  obtain ⟨-, -, h1, h2, -⟩ := tdm x hc
  exact ⟨(h2 hx).1, h1⟩
theorem shRow_ok {k l : List Int} {b : Nat} (hk : 0 ≤ k.getD b 0 ∧ k.getD b 0 ≤ 12) (hl : 0 ≤ l.getD b 0) : (shRow k l b).length = 4 ∧ sumSz (shRow k l b) = k.getD b 0 := by
  have hc := count_pos hk
  have hr := rem_fit hl hc
  obtain ⟨-, h1, h2, -⟩ := vec_ok (n := 4) (k := k.getD b 0) (by omega) hr.1 hr.2
  unfold shRow
  exact ⟨by omega, h2⟩
theorem l_fit {l : List Int} (h : ∀ x ∈ l, 0 ≤ x ∧ x ≤ 4294967295) (b : Nat) : 0 ≤ l.getD b 0 ∧ l.getD b 0 ≤ 4294967295 := by
  by_cases hb : b < l.length
  · exact h _ (getD_mem hb)
  · rw [List.getD_eq_getElem?_getD, List.getElem?_eq_none (by omega)]; simp
theorem rows_at (k l : List Int) {b : Nat} (hb : b < 8) : (shRows k l)[b]? = some (shRow k l b) := by
  unfold shRows; rw [List.getElem?_map, List.getElem?_range hb]; rfl
theorem rows_len (k l : List Int) : (shRows k l).length = 8 := by unfold shRows; rw [List.length_map, List.length_range]
theorem pured26 (side l : List Int) (n : Int) (hn : 12 ≤ n ∧ n ≤ 24) (hw : side.length = 8 ∧ l.length = 8 ∧ ∀ x ∈ l, 0 ≤ x ∧ x ≤ 4294967295) : Pd26 side l n := by
  obtain ⟨hs, hl, hx⟩ := hw
  unfold Pd26
  simp only [eq_self, true_and, and_true, Nat.zero_add]
  have hwr : IntKind.i64.wrap (IntKind.i64.wrap (8 * n) - 64) = 8 * n - 64 := by rw [w64 (n := 8 * n) (by omega) (by omega), w64 (by omega) (by omega)]
  have h8 := held8_len hs
  have hgk := fun b hb => giveK side hn b hb
  refine ⟨0, ⟨⟨rfl, rfl⟩, by omega⟩, fun i hi hw => ?_⟩
  clear hw
  by_cases h : (i : Int) < 8
  · have hv : (held8 side)[i]? = some (iand .i64 (side.getD i 0) 15) := by
      unfold held8
      rw [List.getElem?_map, List.getD_eq_getElem?_getD, List.getElem?_eq_getElem (by omega)]; rfl
    rw [decide_eq_true h, cond_true, Int.toNat_natCast]
    exact ⟨⟨⟨by omega, by omega⟩, by omega, ⟨by omega, by omega⟩, by omega⟩, i + 1, ⟨step_i (by omega), set_step (by omega) (by rw [List.length_replicate]; omega) hv⟩, by omega, by omega⟩
  have : i = 8 := by omega
  subst this
  have e8 : List.take 8 (held8 side) ++ List.drop 8 (List.replicate 8 0) = held8 side := by
    rw [List.take_of_length_le (by omega), List.drop_eq_nil_of_le (by rw [List.length_replicate]; omega), List.append_nil]
  rw [decide_eq_false h, cond_false]
  have hS : shape19 side l n = (held8 side, shRows (refF (held8 side) (8 * n - 64)) l) := rfl
  generalize shape19 side l n = R at *
  subst hS
  simp only [e8, hwr]
  have hr := held8_right side
  generalize refF (held8 side) (8 * n - 64) = k at *
  generalize held8 side = g at *
  refine ⟨⟨hr, by omega, by omega⟩, 0, ⟨⟨rfl, rfl⟩, by omega⟩, fun b hb hw => ?_⟩
  clear hw
  have hrl := rows_len k l
  by_cases hb8 : (b : Int) < 8
  · have hk := hgk b (by omega)
    have hc := count_pos hk
    have hlb := l_fit hx b
    have hrow : vecF 4 (k.getD b 0) (IntKind.i64.wrap (l.getD b 0) |>.tmod (countF 4 (k.getD b 0))) = shRow k l b := by
      rw [w64 (by omega) (by omega)]; rfl
    have hrk := shRow_ok (l := l) hk hlb.1
    have hat := rows_at k l (b := b) (by omega)
    rw [decide_eq_true hb8, cond_true]
    simp only [Int.toNat_natCast]
    refine ⟨⟨⟨by omega, by omega⟩, by omega⟩, ?_⟩
    rw [decide_eq_false (show ¬ countF 4 (k.getD b 0) = 0 by omega), cond_false]
    simp only [hrow]
    generalize shRow k l b = F at *
    generalize hG : List.take b (shRows k l) ++ List.drop b (List.replicate 8 (List.replicate 4 0)) = G at *
    have hGl : G.length = 8 := by
      rw [← hG, List.length_append, List.length_take, List.length_drop, List.length_replicate]; omega
    have hGb : G.getD b (List.replicate 4 0) = List.replicate 4 0 := by
      rw [← hG, List.getD_eq_getElem?_getD, List.getElem?_append_right (by rw [List.length_take]; omega), List.length_take, Nat.min_eq_left (by omega), Nat.sub_self, List.getElem?_drop, Nat.add_zero, List.getElem?_replicate, if_pos (by omega)]; rfl
    refine ⟨⟨⟨by omega, by omega⟩, by omega, ⟨by omega, by omega⟩, by omega, by omega⟩, 0, ⟨⟨rfl, ?_⟩, by omega⟩, fun j hj hw => ?_⟩
    · exact (set_same hGb (by omega)).symm
    clear hw
    intro b0 hb0
    refine ⟨⟨id, id, id⟩, ?_⟩
    have hlen : decide ((F.length : Int) = 4) = true := decide_eq_true (by omega)
    rw [hlen, ← hb0]
    by_cases hj4 : (j : Int) < 4
    · rw [decide_eq_true hj4, cond_true, cond_true, List.set_set, row_set (by omega)]
      refine ⟨⟨⟨by omega, by omega⟩, by omega, ⟨by omega, by omega⟩, ⟨by omega, by omega⟩, by omega, by omega⟩, j + 1, ⟨step_i (by omega), ?_⟩, by omega, by omega⟩
      have hv : F[j]? = some (F.getD j 0) := by
        rw [List.getD_eq_getElem?_getD, List.getElem?_eq_getElem (by omega)]; rfl
      rw [set_step (by omega) (by rw [List.length_replicate]; omega) hv]
    · have : j = 4 := by omega
      subst this
      have e4 : List.take 4 F ++ List.drop 4 (List.replicate 4 0) = F := by
        rw [List.take_of_length_le (by omega), List.drop_eq_nil_of_le (by rw [List.length_replicate]; omega), List.append_nil]
      rw [decide_eq_false hj4, cond_false, cond_false, e4, ← hG]
      exact ⟨b + 1, ⟨step_i (by omega), set_step (by omega) (by rw [List.length_replicate]; omega) hat⟩, by omega, by omega⟩
  · have : b = 8 := by omega
    subst this
    rw [decide_eq_false hb8, cond_false]
    refine ⟨trivial, ?_⟩
    rw [List.take_of_length_le (by omega), List.drop_eq_nil_of_le (by rw [List.length_replicate]; omega), List.append_nil]

theorem mov_zero {b : Int} (h : 0 ≤ b ∧ b < 8) : movF (List.replicate 8 0) b = 4 := by
  rcases (show b = 0 ∨ b = 1 ∨ b = 2 ∨ b = 3 ∨ b = 4 ∨ b = 5 ∨ b = 6 ∨ b = 7 by omega) with rfl | rfl | rfl | rfl | rfl | rfl | rfl | rfl <;> decide
theorem held_zero : heldB (List.replicate 8 (List.replicate 4 0)) = true := by decide
/-- Two pulses can speak. -/
theorem two_speak (k : List Int) (f : Int) (bit : Bool) : ∃ z : List Int, z.length = 4 ∧ sumSz z = 2 ∧ 2 ≤ dotZ z (chipB bit (chipsK k f)) 4 ∧ farM [1, 1, 0, 0] z 4 ≤ 4 := by
  refine ⟨[(chipB bit (chipsK k f)).getD 0 0, (chipB bit (chipsK k f)).getD 1 0, 0, 0], rfl, ?_, ?_, ?_⟩
  · rcases chipB_one k f bit (i := 0) (by omega) with h | h <;> rcases chipB_one k f bit (i := 1) (by omega) with h' | h' <;> rw [h, h'] <;> decide
  · rw [dot4]
    rcases chipB_one k f bit (i := 0) (by omega) with h | h <;> rcases chipB_one k f bit (i := 1) (by omega) with h' | h' <;> rw [h, h'] <;> omega
  · rw [far4]
    rcases chipB_one k f bit (i := 0) (by omega) with h | h <;> rcases chipB_one k f bit (i := 1) (by omega) with h' | h' <;> rw [h, h'] <;> decide
theorem zero_dot {z : List Int} (hl : z.length = 4) (hz : sumSz z = 0) (c : List Int) : dotZ z c 4 = 0 := by
  obtain ⟨a, b, c', d, rfl⟩ := four hl
  have e : sumSz [a, b, c', d] = sz13 a + (sz13 b + (sz13 c' + (sz13 d + 0))) := rfl
  have h1 := sz13_pos a
  have h2 := sz13_pos b
  have h3 := sz13_pos c'
  have h4 := sz13_pos d
  have k1 := sz13_le12 (x := a) (by omega)
  have k2 := sz13_le12 (x := b) (by omega)
  have k3 := sz13_le12 (x := c') (by omega)
  have k4 := sz13_le12 (x := d) (by omega)
  rw [dot4, show a = 0 by omega, show b = 0 by omega, show c' = 0 by omega, show d = 0 by omega]; omega
theorem pured14 : Pd14 := by
  unfold Pd14
  rintro n hn
  have hb := band_fit (List.replicate 16 0) 3
  rw [hn] at hb
  refine ⟨⟨hb, by omega⟩, ?_⟩
  have hrep : ∀ y ∈ List.replicate 8 (List.replicate 4 (0 : Int)), y.length = 4 := fun y hy => by rw [(List.mem_replicate.1 hy).2]; rfl
  generalize hB : (1 : Int) :: List.set (List.set (List.set (List.replicate 3 (0 : Int)) 0 1) 1 0) 2 0 = B
  have hB : B = [1, 1, 0, 0] := hB.symm.trans rfl
  generalize List.replicate 16 (0 : Int) = k at *
  have hBl : B.length = 4 := by rw [hB]; rfl
  have hBs : sumSz B = 2 := by rw [hB]; decide
  have l8 : (List.set (List.replicate 8 (List.replicate 4 (0 : Int))) n.toNat B).length = 8 := by rw [List.length_set, List.length_replicate]
  have l4 : ∀ y ∈ List.set (List.replicate 8 (List.replicate 4 (0 : Int))) n.toNat B, y.length = 4 := fun y hy => by
    rcases List.mem_or_eq_of_mem_set hy with hy | rfl
    · exact hrep y hy
    · exact hBl
  have hh := held_set held_zero (okRow_of (y := B) (by omega)) n.toNat
  have hrow : rowZ (List.set (List.replicate 8 (List.replicate 4 (0 : Int))) n.toNat B) (bandK k 3) = B := by
    rw [hn]; exact row_set (by rw [List.length_replicate]; omega) B
  generalize hY : List.set (List.replicate 8 (List.replicate 4 (0 : Int))) n.toNat B = Y at *
  obtain ⟨y', W⟩ := putM_ok k 3 true (s := (List.replicate 8 0, Y)) l8 l4 hh (by rw [hrow]; omega)
  obtain ⟨z, z1, z2, z3, z4⟩ := two_speak k 3 true
  have ok := (W.o.least z z1 (by rw [hrow]; omega) z3 (by rw [hrow, hn, mov_zero hb, hB]; exact z4)).1
  have hspk : spkF (corrF k 3 (putM k 3 true (List.replicate 8 0, Y)).1) = -1 := W.spk.1 ok
  have hrow0 : rowZ (List.replicate 8 (List.replicate 4 (0 : Int))) (bandK k 3) = List.replicate 4 0 := by
    rw [hn]; unfold rowZ
    rw [List.getD_eq_getElem?_getD, List.getElem?_replicate, if_pos (by omega)]; rfl
  obtain ⟨y0, W0⟩ := putM_ok k 3 true (s := (List.replicate 8 0, List.replicate 8 (List.replicate 4 0))) rfl hrep held_zero (by rw [hrow0]; decide)
  have h0 : sumSz y0 = 0 := by rw [W0.o.sz, hrow0]; decide
  have no : (putM k 3 true (List.replicate 8 0, List.replicate 8 (List.replicate 4 0))).2 = false := by
    rw [W0.o.ok, zero_dot W0.o.len h0]; rfl
  rw [ok, cond_true, decide_eq_true (show spkF (corrF k 3 ((putM k 3 true (List.replicate 8 0, Y)).1.1, (putM k 3 true (List.replicate 8 0, Y)).1.2)) = -1 from hspk), cond_true, no]
  rfl
end Go.SL.A

/- Functions do what they are held to do. -/
namespace Go.SL.A
open Go Go.SL Go.SL.S
theorem sndd45 : Sound Go.Proofs.Tryd.prog Gd45 := sndd25.add ⟨_, Go.Proofs.Tryd.func45, by kernel_rfl, by kernel_rfl⟩ (by
  intro args ins out h hp
  unfold spd45 at h
  split at h
  · rename_i s n
    cases h
    exact vcFun_ok (C := Cd45) good sndd25 Meth.none mix Go.Proofs.Tryd.func45 (annd45 s n) (fun hw => by rw [← vcd45 s n]; exact pured45 s n (hwd45 hw))
  · cases h)

theorem sndd26 : Sound Go.Proofs.Tryd.prog Gd26 := sndd45.add ⟨_, Go.Proofs.Tryd.func26, by kernel_rfl, by kernel_rfl⟩ (by
  intro args ins out h hp
  unfold spd26 at h
  split at h
  · rename_i side l n
    cases h
    exact vcFun_ok (C := Cd26) good sndd45 Meth.none mix Go.Proofs.Tryd.func26 (annd26 side l n) (fun hw => by rw [← vcd26 side l n]; exact pured26 side l n hp (hwd26 hw))
  · cases h)

theorem sndd14 : Sound Go.Proofs.Tryd.prog Gd14 := sndd26.add ⟨_, Go.Proofs.Tryd.func14, by kernel_rfl, by kernel_rfl⟩ (by
  intro args ins out h hp
  unfold spd14 at h
  split at h
  · cases h
    exact vcFun_ok (C := Cd14) good sndd26 Meth.none mix Go.Proofs.Tryd.func14 (annd14 ) (fun hw => by rw [← vcd14 ]; exact pured14)
  · cases h)

end Go.SL.A

/- A frame's bit: plain laws. -/
namespace Go.SL.A
open Go Go.SL Go.SL.S
set_option maxRecDepth 100000

theorem pair_eta {α β : Type} (x : α × β) : (x.1, x.2) = x := rfl
structure Rt (s : SHM) : Prop where
  l1 : s.1.length = 8
  l8 : s.2.length = 8
  l4 : ∀ y ∈ s.2, y.length = 4
  held : heldB s.2 = true
  sz : ∀ b : Int, 0 ≤ b ∧ b < 8 → sumSz (rowZ s.2 b) ≤ 12
  rt : rightF s.1 = true
theorem rows_row (k l : List Int) {b : Int} (hb : 0 ≤ b ∧ b < 8) : rowZ (shRows k l) b = shRow k l b.toNat := by
  unfold rowZ
  rw [List.getD_eq_getElem?_getD, rows_at k l (by omega)]; rfl
theorem shape_rt {side l : List Int} {n : Int} (hs : side.length = 8) (hx : ∀ x ∈ l, 0 ≤ x ∧ x ≤ 4294967295) (hn : 12 ≤ n ∧ n ≤ 24) : Rt (shape19 side l n) := by
  have hk := fun b hb => giveK side hn b hb
  have ho := fun b (hb : b < 8) => shRow_ok (hk b hb) (l_fit hx b).1
  unfold shape19
  generalize refF (held8 side) (8 * n - 64) = k at *
  refine ⟨held8_len hs, rows_len k l, fun y hy => ?_, List.all_eq_true.2 fun y hy => ?_, fun b hb => ?_, held8_right side⟩
  · obtain ⟨b, hb, rfl⟩ := List.mem_map.1 hy
    exact (ho b (List.mem_range.1 hb)).1
  · obtain ⟨b, hb, rfl⟩ := List.mem_map.1 hy
    have h8 := List.mem_range.1 hb
    refine okRow_of ?_
    rw [(ho b h8).2]; exact (hk b h8).2
  · show sumSz (rowZ (shRows k l) b) ≤ 12
    rw [rows_row k l hb, (ho b.toNat (by omega)).2]; exact (hk b.toNat (by omega)).2
theorem Rt.put {k : List Int} {f : Int} {bit : Bool} {s : SHM} (h : Rt s) : ∃ y', PutW k f bit s y' ∧ Rt (putM k f bit s).1 := by
  have hb := band_fit k f
  obtain ⟨y', W⟩ := putM_ok k f bit h.l8 h.l4 h.held (h.sz _ hb)
  refine ⟨y', W, by rw [W.sd]; exact h.l1, W.l8, W.l4, W.held, fun b hb8 => ?_, by rw [W.sd]; exact h.rt⟩
  have e2 : (putM k f bit s).1.2 = List.set s.2 (bandK k f).toNat y' := by rw [W.o.sh]
  by_cases e : b = bandK k f
  · rw [e, W.row, W.o.sz]; exact h.sz _ hb
  · rw [e2]
    unfold rowZ
    rw [List.getD_eq_getElem?_getD, List.getElem?_set_ne (by omega), ← List.getD_eq_getElem?_getD]
    exact h.sz b hb8

theorem put_same {k : List Int} {f : Int} {bit : Bool} {s : SHM} {y' : List Int} (h : Rt s) (W : PutW k f bit s y') (e : y' = rowZ s.2 (bandK k f)) : (putM k f bit s).1 = s := by
  have hb := band_fit k f
  have l8 := h.l8
  have := set_same (L := s.2) (b := (bandK k f).toNat) (y := rowZ s.2 (bandK k f)) rfl (by omega)
  rw [W.o.sh, e, this]
theorem corr_row {k : List Int} {f : Int} {s : SHM} (h : Rt s) : corrF k f s = dotZ (rowZ s.2 (bandK k f)) (chipsK k f) 4 := by
  unfold corrF; rw [if_pos h.held]
theorem was_ok {k : List Int} {f : Int} {bit : Bool} {s : SHM} (h : Rt s) (hc : 2 ≤ (if bit then - corrF k f s else corrF k f s)) : (putM k f bit s).1 = s ∧ (putM k f bit s).2 = true := by
  obtain ⟨y', W, -⟩ := h.put (k := k) (f := f) (bit := bit)
  have hd : 2 ≤ dotZ (rowZ s.2 (bandK k f)) (chipB bit (chipsK k f)) 4 := by rw [dot_chip, ← corr_row h]; exact hc
  have e := W.o.was hd
  exact ⟨put_same h W e, by rw [W.o.ok, e]; exact decide_eq_true hd⟩
theorem again_ok {k : List Int} {f : Int} {bit : Bool} {s : SHM} (h : Rt s) : (putM k f bit (putM k f bit s).1).1 = (putM k f bit s).1 ∧ (putM k f bit (putM k f bit s).1).2 = (putM k f bit s).2 := by
  obtain ⟨y', W, R⟩ := h.put (k := k) (f := f) (bit := bit)
  cases ho : (putM k f bit s).2 with
  | true =>
    have hd : 2 ≤ (if bit then - corrF k f (putM k f bit s).1 else corrF k f (putM k f bit s).1) := by
      rw [W.corr, ← dot_chip]
      have := W.o.ok
      rw [ho] at this
      exact of_decide_eq_true this.symm
    exact was_ok R hd
  | false =>
    have e := put_same h W (W.o.no ho)
    rw [e, e]; exact ⟨rfl, ho⟩
theorem dot_abs {y c : List Int} (hl : y.length = 4) (hq : sumSz y ≤ 12) (hc : ∀ i, i < 4 → c.getD i 0 = 1 ∨ c.getD i 0 = -1) : - sumSz y ≤ dotZ y c 4 ∧ dotZ y c 4 ≤ sumSz y := by
  obtain ⟨a, b, p, d, rfl⟩ := four hl
  have e : sumSz [a, b, p, d] = sz13 a + (sz13 b + (sz13 p + (sz13 d + 0))) := rfl
  have h1 := sz13_pos a
  have h2 := sz13_pos b
  have h3 := sz13_pos p
  have h4 := sz13_pos d
  have k1 := sz13_le12 (x := a) (by omega)
  have k2 := sz13_le12 (x := b) (by omega)
  have k3 := sz13_le12 (x := p) (by omega)
  have k4 := sz13_le12 (x := d) (by omega)
  have one : ∀ x q : Int, (q = 1 ∨ q = -1) → x * q = x ∨ x * q = -x := fun x q hq => by rcases hq with rfl | rfl <;> omega
  rw [dot4]
  have m1 := one a _ (hc 0 (by omega))
  have m2 := one b _ (hc 1 (by omega))
  have m3 := one p _ (hc 2 (by omega))
  have m4 := one d _ (hc 3 (by omega))
  omega
theorem corr_fit {k : List Int} {f : Int} {s : SHM} (h : Rt s) : -12 ≤ corrF k f s ∧ corrF k f s ≤ 12 := by
  have hb := band_fit k f
  have hq := h.sz _ hb
  have l8 := h.l8
  have hl : (rowZ s.2 (bandK k f)).length = 4 := h.l4 _ (getD_mem (by omega))
  have := dot_abs hl hq (c := chipsK k f) (fun i hi => chips_one k f hi)
  rw [corr_row h]; omega
theorem eqbSH (x : SHM) : Ty.eqb (.cons (.arr 8 (.int .i64)) (.last (.arr 8 (.arr 4 (.int .i64))))) x x = true := by
  simp [Ty.eqb]
theorem eqb8 (x : List Int) : Ty.eqb (.arr 8 (.int .i64)) x x = true := by simp [Ty.eqb]
theorem eqb4 (x : List Int) : Ty.eqb (.arr 4 (.int .i64)) x x = true := by simp [Ty.eqb]
theorem size_fit {n : Int} (h : 0 ≤ n ∧ n ≤ 255) : IntKind.i64.wrap (12 + Int.tmod (IntKind.i64.wrap n) 13) = 12 + Int.tmod n 13 ∧ 12 ≤ 12 + Int.tmod n 13 ∧ 12 + Int.tmod n 13 ≤ 24 := by
  have ⟨_, _, h2, h3, _⟩ := tdm n (k := 13) (by omega)
  have h3 := (h3 h.1).1
  rw [w64 (n := n) (by omega) (by omega), w64 (by omega) (by omega)]
  omega
theorem hwd5 {k side l : List Int} {f n : Int} {bit : Bool} (hw : Go.SL.allP (List.flatMap (fun a : AV => a.t.wf a.x) [⟨.arr 16 (.int .u8), k⟩, ⟨.int .i64, f⟩, ⟨.bool, bit⟩, ⟨.arr 8 (.int .i64), side⟩, ⟨.arr 8 (.int .u32), l⟩, ⟨.int .u8, n⟩] ++ List.flatMap Blk.wf [])) : side.length = 8 ∧ (∀ x ∈ l, 0 ≤ x ∧ x ≤ 4294967295) ∧ 0 ≤ n ∧ n ≤ 255 := by
  simp only [List.flatMap_cons, List.flatMap_nil, Ty.wf, List.append_nil, List.cons_append, List.nil_append, Go.SL.allP] at hw
  obtain ⟨-, -, -, -, h5, -, -, h8, h9, h10⟩ := hw
  have e1 : IntKind.u32.min = 0 := by decide
  have e2 : IntKind.u32.max = 4294967295 := by decide
  have e3 : IntKind.u8.min = 0 := by decide
  have e4 : IntKind.u8.max = 255 := by decide
  rw [e3] at h9; rw [e4] at h10
  exact ⟨h5, fun x hx => by have := h8 x hx; rw [e1, e2] at this; exact this, h9, h10⟩
end Go.SL.A
