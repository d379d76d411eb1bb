/- PvqSplit returns true, whatever its arguments, which read afterwards as before: no condition. -/
import Derived.Test.YthhfccnhkadkcaaRows
import Derived.Test.YthhfccnhkadkcaaPvq
import Derived.Test.YthhfccnhkadkcaaPvqB
import Derived.Test.YthhfccnhkadkcaaKb
import Derived.Test.YthhfccnhkadkcaaT

/- Functions and what they are held to do: bound to their code. -/
namespace Go.SL.A
open Go Go.SL Go.SL.S
set_option maxRecDepth 100000
noncomputable def C11 : Ctx := ⟨Go.Proofs.Try.prog, D, G46, (fun _ _ => none), fun _ => []⟩
def ann11 (n k i : Int) : Nat → St → Option Ann := fun id S => some ⟨Nat, [11, 13], [0, 1], fun j => [(15, .v (.int .i64) (j : Int))], fun _ => [], fun j => j ≤ (S.xs 1 (.int .i64)).length, fun j => (S.xs 1 (.int .i64)).length - j⟩
def out11 (n k i : Int) : COut := ⟨[], .v .bool true, [], []⟩
def sp11 : Spec := fun args ins => match args, ins with
  | [⟨.int .u8, n⟩, ⟨.int .u8, k⟩, ⟨.int .u32, i⟩], [] => some (out11 n k i)
  | _, _ => none
def G11 := addG G46 11 sp11
def P11 (n k i : Int) : Prop :=
  ((8 : Int) ≠ (0 : Int) ∧ (13 : Int) ≠ (0 : Int)) ∧ bif decide (countF (IntKind.wrap IntKind.i64 (IntKind.wrap IntKind.i64 ((1 : Int) + Int.tmod (IntKind.wrap IntKind.i64 n) (8 : Int)) - (1 : Int))) (Int.tmod (IntKind.wrap
  IntKind.i64 k) (13 : Int)) = (0 : Int)) then ∀ (b : Bool), decide (IntKind.wrap IntKind.i64 ((1 : Int) + Int.tmod (IntKind.wrap IntKind.i64 n) (8 : Int)) = (1 : Int)) = b → ((b = true → b = true) ∧ (b = true → b = true))
  ∧ (bif b then decide ((0 : Int) < Int.tmod (IntKind.wrap IntKind.i64 k) (13 : Int)) else false) = true else countF (IntKind.wrap IntKind.i64 (IntKind.wrap IntKind.i64 ((1 : Int) + Int.tmod (IntKind.wrap IntKind.i64 n) (8
  : Int)) - (1 : Int))) (Int.tmod (IntKind.wrap IntKind.i64 k) (13 : Int)) ≠ (0 : Int) ∧ ∀ (b : Bool), (!decide (vecE (IntKind.wrap IntKind.i64 ((1 : Int) + Int.tmod (IntKind.wrap IntKind.i64 n) (8 : Int))) (Int.tmod
  (IntKind.wrap IntKind.i64 k) (13 : Int)) (Int.tmod (IntKind.wrap IntKind.i64 i) (countF (IntKind.wrap IntKind.i64 (IntKind.wrap IntKind.i64 ((1 : Int) + Int.tmod (IntKind.wrap IntKind.i64 n) (8 : Int)) - (1 : Int)))
  (Int.tmod (IntKind.wrap IntKind.i64 k) (13 : Int)))) = (0 : Int))) = b → ∀ (b_1 : Bool), (bif b then true else !decide (vecE (IntKind.wrap IntKind.i64 (IntKind.wrap IntKind.i64 ((1 : Int) + Int.tmod (IntKind.wrap
  IntKind.i64 n) (8 : Int)) - (1 : Int))) (Int.tmod (IntKind.wrap IntKind.i64 k) (13 : Int)) (Int.tmod (IntKind.wrap IntKind.i64 i) (countF (IntKind.wrap IntKind.i64 (IntKind.wrap IntKind.i64 ((1 : Int) + Int.tmod
  (IntKind.wrap IntKind.i64 n) (8 : Int)) - (1 : Int))) (Int.tmod (IntKind.wrap IntKind.i64 k) (13 : Int)))) = (0 : Int))) = b_1 → ∀ (b_2 : Bool), (bif b_1 then true else !decide ((↑(List.length (vecF (IntKind.wrap
  IntKind.i64 ((1 : Int) + Int.tmod (IntKind.wrap IntKind.i64 n) (8 : Int))) (Int.tmod (IntKind.wrap IntKind.i64 k) (13 : Int)) (Int.tmod (IntKind.wrap IntKind.i64 i) (countF (IntKind.wrap IntKind.i64 (IntKind.wrap
  IntKind.i64 ((1 : Int) + Int.tmod (IntKind.wrap IntKind.i64 n) (8 : Int)) - (1 : Int))) (Int.tmod (IntKind.wrap IntKind.i64 k) (13 : Int)))))) : Int) = IntKind.wrap IntKind.i64 ((1 : Int) + Int.tmod (IntKind.wrap
  IntKind.i64 n) (8 : Int)))) = b_2 → ∀ (b_3 : Bool), (bif b_2 then true else !decide ((↑(List.length (vecF (IntKind.wrap IntKind.i64 (IntKind.wrap IntKind.i64 ((1 : Int) + Int.tmod (IntKind.wrap IntKind.i64 n) (8 : Int)) -
  (1 : Int))) (Int.tmod (IntKind.wrap IntKind.i64 k) (13 : Int)) (Int.tmod (IntKind.wrap IntKind.i64 i) (countF (IntKind.wrap IntKind.i64 (IntKind.wrap IntKind.i64 ((1 : Int) + Int.tmod (IntKind.wrap IntKind.i64 n) (8 :
  Int)) - (1 : Int))) (Int.tmod (IntKind.wrap IntKind.i64 k) (13 : Int)))))) : Int) = IntKind.wrap IntKind.i64 (IntKind.wrap IntKind.i64 ((1 : Int) + Int.tmod (IntKind.wrap IntKind.i64 n) (8 : Int)) - (1 : Int)))) = b_3 →
  (((!b) = true → (!b) = true) ∧ (b = false → (!b) = true) ∧ ((!b_1) = true → (!b_1) = true) ∧ ((!b_1) = true → (!b_1) = true ∧ (!b_1) = true) ∧ (b_1 = false → (!b_1) = true) ∧ ((!b_2) = true → (!b_2) = true) ∧ ((!b_2) =
  true → (!b_2) = true) ∧ ((!b_2) = true → (!b_2) = true ∧ (!b_2) = true) ∧ (b_2 = false → (!b_2) = true) ∧ ((!b_3) = true → (!b_3) = true ∧ (0 : Int) ≤ (0 : Int) ∧ (0 : Int) < (↑(List.length (vecF (IntKind.wrap IntKind.i64
  ((1 : Int) + Int.tmod (IntKind.wrap IntKind.i64 n) (8 : Int))) (Int.tmod (IntKind.wrap IntKind.i64 k) (13 : Int)) (Int.tmod (IntKind.wrap IntKind.i64 i) (countF (IntKind.wrap IntKind.i64 (IntKind.wrap IntKind.i64 ((1 :
  Int) + Int.tmod (IntKind.wrap IntKind.i64 n) (8 : Int)) - (1 : Int))) (Int.tmod (IntKind.wrap IntKind.i64 k) (13 : Int)))))) : Int)) ∧ ((!b_3) = true → (!b_3) = true ∧ (0 : Nat) < List.length (vecF (IntKind.wrap
  IntKind.i64 ((1 : Int) + Int.tmod (IntKind.wrap IntKind.i64 n) (8 : Int))) (Int.tmod (IntKind.wrap IntKind.i64 k) (13 : Int)) (Int.tmod (IntKind.wrap IntKind.i64 i) (countF (IntKind.wrap IntKind.i64 (IntKind.wrap
  IntKind.i64 ((1 : Int) + Int.tmod (IntKind.wrap IntKind.i64 n) (8 : Int)) - (1 : Int))) (Int.tmod (IntKind.wrap IntKind.i64 k) (13 : Int)))))) ∧ ((!b_3) = true → (!b_3) = true) ∧ (b_3 = false → (!b_3) = true)) ∧ bif bif
  b_3 then true else !decide (List.getD (vecF (IntKind.wrap IntKind.i64 ((1 : Int) + Int.tmod (IntKind.wrap IntKind.i64 n) (8 : Int))) (Int.tmod (IntKind.wrap IntKind.i64 k) (13 : Int)) (Int.tmod (IntKind.wrap IntKind.i64
  i) (countF (IntKind.wrap IntKind.i64 (IntKind.wrap IntKind.i64 ((1 : Int) + Int.tmod (IntKind.wrap IntKind.i64 n) (8 : Int)) - (1 : Int))) (Int.tmod (IntKind.wrap IntKind.i64 k) (13 : Int))))) (0 : Nat) (0 : Int) = (0 :
  Int)) then false = true else ∃ (x : Nat), (((0 : Nat) = (0 : Nat) ∧ List.length (vecF (IntKind.wrap IntKind.i64 ((1 : Int) + Int.tmod (IntKind.wrap IntKind.i64 n) (8 : Int))) (Int.tmod (IntKind.wrap IntKind.i64 k) (13 :
  Int)) (Int.tmod (IntKind.wrap IntKind.i64 i) (countF (IntKind.wrap IntKind.i64 (IntKind.wrap IntKind.i64 ((1 : Int) + Int.tmod (IntKind.wrap IntKind.i64 n) (8 : Int)) - (1 : Int))) (Int.tmod (IntKind.wrap IntKind.i64 k)
  (13 : Int))))) = List.length (vecF (IntKind.wrap IntKind.i64 ((1 : Int) + Int.tmod (IntKind.wrap IntKind.i64 n) (8 : Int))) (Int.tmod (IntKind.wrap IntKind.i64 k) (13 : Int)) (Int.tmod (IntKind.wrap IntKind.i64 i) (countF
  (IntKind.wrap IntKind.i64 (IntKind.wrap IntKind.i64 ((1 : Int) + Int.tmod (IntKind.wrap IntKind.i64 n) (8 : Int)) - (1 : Int))) (Int.tmod (IntKind.wrap IntKind.i64 k) (13 : Int))))) ∧ (0 : Nat) = (0 : Nat) ∧ List.length
  (vecF (IntKind.wrap IntKind.i64 (IntKind.wrap IntKind.i64 ((1 : Int) + Int.tmod (IntKind.wrap IntKind.i64 n) (8 : Int)) - (1 : Int))) (Int.tmod (IntKind.wrap IntKind.i64 k) (13 : Int)) (Int.tmod (IntKind.wrap IntKind.i64
  i) (countF (IntKind.wrap IntKind.i64 (IntKind.wrap IntKind.i64 ((1 : Int) + Int.tmod (IntKind.wrap IntKind.i64 n) (8 : Int)) - (1 : Int))) (Int.tmod (IntKind.wrap IntKind.i64 k) (13 : Int))))) = List.length (vecF
  (IntKind.wrap IntKind.i64 (IntKind.wrap IntKind.i64 ((1 : Int) + Int.tmod (IntKind.wrap IntKind.i64 n) (8 : Int)) - (1 : Int))) (Int.tmod (IntKind.wrap IntKind.i64 k) (13 : Int)) (Int.tmod (IntKind.wrap IntKind.i64 i)
  (countF (IntKind.wrap IntKind.i64 (IntKind.wrap IntKind.i64 ((1 : Int) + Int.tmod (IntKind.wrap IntKind.i64 n) (8 : Int)) - (1 : Int))) (Int.tmod (IntKind.wrap IntKind.i64 k) (13 : Int))))) ∧ (0 : Int) = (↑x : Int) ∧ vecF
  (IntKind.wrap IntKind.i64 ((1 : Int) + Int.tmod (IntKind.wrap IntKind.i64 n) (8 : Int))) (Int.tmod (IntKind.wrap IntKind.i64 k) (13 : Int)) (Int.tmod (IntKind.wrap IntKind.i64 i) (countF (IntKind.wrap IntKind.i64
  (IntKind.wrap IntKind.i64 ((1 : Int) + Int.tmod (IntKind.wrap IntKind.i64 n) (8 : Int)) - (1 : Int))) (Int.tmod (IntKind.wrap IntKind.i64 k) (13 : Int)))) = vecF (IntKind.wrap IntKind.i64 ((1 : Int) + Int.tmod
  (IntKind.wrap IntKind.i64 n) (8 : Int))) (Int.tmod (IntKind.wrap IntKind.i64 k) (13 : Int)) (Int.tmod (IntKind.wrap IntKind.i64 i) (countF (IntKind.wrap IntKind.i64 (IntKind.wrap IntKind.i64 ((1 : Int) + Int.tmod
  (IntKind.wrap IntKind.i64 n) (8 : Int)) - (1 : Int))) (Int.tmod (IntKind.wrap IntKind.i64 k) (13 : Int)))) ∧ false = false ∧ vecF (IntKind.wrap IntKind.i64 (IntKind.wrap IntKind.i64 ((1 : Int) + Int.tmod (IntKind.wrap
  IntKind.i64 n) (8 : Int)) - (1 : Int))) (Int.tmod (IntKind.wrap IntKind.i64 k) (13 : Int)) (Int.tmod (IntKind.wrap IntKind.i64 i) (countF (IntKind.wrap IntKind.i64 (IntKind.wrap IntKind.i64 ((1 : Int) + Int.tmod
  (IntKind.wrap IntKind.i64 n) (8 : Int)) - (1 : Int))) (Int.tmod (IntKind.wrap IntKind.i64 k) (13 : Int)))) = vecF (IntKind.wrap IntKind.i64 (IntKind.wrap IntKind.i64 ((1 : Int) + Int.tmod (IntKind.wrap IntKind.i64 n) (8 :
  Int)) - (1 : Int))) (Int.tmod (IntKind.wrap IntKind.i64 k) (13 : Int)) (Int.tmod (IntKind.wrap IntKind.i64 i) (countF (IntKind.wrap IntKind.i64 (IntKind.wrap IntKind.i64 ((1 : Int) + Int.tmod (IntKind.wrap IntKind.i64 n)
  (8 : Int)) - (1 : Int))) (Int.tmod (IntKind.wrap IntKind.i64 k) (13 : Int)))) ∧ false = false) ∧ x ≤ List.length (vecF (IntKind.wrap IntKind.i64 (IntKind.wrap IntKind.i64 ((1 : Int) + Int.tmod (IntKind.wrap IntKind.i64 n)
  (8 : Int)) - (1 : Int))) (Int.tmod (IntKind.wrap IntKind.i64 k) (13 : Int)) (Int.tmod (IntKind.wrap IntKind.i64 i) (countF (IntKind.wrap IntKind.i64 (IntKind.wrap IntKind.i64 ((1 : Int) + Int.tmod (IntKind.wrap
  IntKind.i64 n) (8 : Int)) - (1 : Int))) (Int.tmod (IntKind.wrap IntKind.i64 k) (13 : Int)))))) ∧ ∀ (x : Nat), x ≤ List.length (vecF (IntKind.wrap IntKind.i64 (IntKind.wrap IntKind.i64 ((1 : Int) + Int.tmod (IntKind.wrap
  IntKind.i64 n) (8 : Int)) - (1 : Int))) (Int.tmod (IntKind.wrap IntKind.i64 k) (13 : Int)) (Int.tmod (IntKind.wrap IntKind.i64 i) (countF (IntKind.wrap IntKind.i64 (IntKind.wrap IntKind.i64 ((1 : Int) + Int.tmod
  (IntKind.wrap IntKind.i64 n) (8 : Int)) - (1 : Int))) (Int.tmod (IntKind.wrap IntKind.i64 k) (13 : Int))))) → IntKind.min IntKind.i64 ≤ (↑x : Int) ∧ (↑x : Int) ≤ IntKind.max IntKind.i64 → bif decide ((↑x : Int) <
  (↑(List.length (vecF (IntKind.wrap IntKind.i64 (IntKind.wrap IntKind.i64 ((1 : Int) + Int.tmod (IntKind.wrap IntKind.i64 n) (8 : Int)) - (1 : Int))) (Int.tmod (IntKind.wrap IntKind.i64 k) (13 : Int)) (Int.tmod
  (IntKind.wrap IntKind.i64 i) (countF (IntKind.wrap IntKind.i64 (IntKind.wrap IntKind.i64 ((1 : Int) + Int.tmod (IntKind.wrap IntKind.i64 n) (8 : Int)) - (1 : Int))) (Int.tmod (IntKind.wrap IntKind.i64 k) (13 : Int)))))) :
  Int)) then (((0 : Int) ≤ IntKind.wrap IntKind.i64 ((↑x : Int) + (1 : Int)) ∧ IntKind.wrap IntKind.i64 ((↑x : Int) + (1 : Int)) < (↑(List.length (vecF (IntKind.wrap IntKind.i64 ((1 : Int) + Int.tmod (IntKind.wrap
  IntKind.i64 n) (8 : Int))) (Int.tmod (IntKind.wrap IntKind.i64 k) (13 : Int)) (Int.tmod (IntKind.wrap IntKind.i64 i) (countF (IntKind.wrap IntKind.i64 (IntKind.wrap IntKind.i64 ((1 : Int) + Int.tmod (IntKind.wrap
  IntKind.i64 n) (8 : Int)) - (1 : Int))) (Int.tmod (IntKind.wrap IntKind.i64 k) (13 : Int)))))) : Int)) ∧ (0 : Nat) + Int.toNat (IntKind.wrap IntKind.i64 ((↑x : Int) + (1 : Int))) < List.length (vecF (IntKind.wrap
  IntKind.i64 ((1 : Int) + Int.tmod (IntKind.wrap IntKind.i64 n) (8 : Int))) (Int.tmod (IntKind.wrap IntKind.i64 k) (13 : Int)) (Int.tmod (IntKind.wrap IntKind.i64 i) (countF (IntKind.wrap IntKind.i64 (IntKind.wrap
  IntKind.i64 ((1 : Int) + Int.tmod (IntKind.wrap IntKind.i64 n) (8 : Int)) - (1 : Int))) (Int.tmod (IntKind.wrap IntKind.i64 k) (13 : Int))))) ∧ ((0 : Int) ≤ (↑x : Int) ∧ (↑x : Int) < (↑(List.length (vecF (IntKind.wrap
  IntKind.i64 (IntKind.wrap IntKind.i64 ((1 : Int) + Int.tmod (IntKind.wrap IntKind.i64 n) (8 : Int)) - (1 : Int))) (Int.tmod (IntKind.wrap IntKind.i64 k) (13 : Int)) (Int.tmod (IntKind.wrap IntKind.i64 i) (countF
  (IntKind.wrap IntKind.i64 (IntKind.wrap IntKind.i64 ((1 : Int) + Int.tmod (IntKind.wrap IntKind.i64 n) (8 : Int)) - (1 : Int))) (Int.tmod (IntKind.wrap IntKind.i64 k) (13 : Int)))))) : Int)) ∧ (0 : Nat) + Int.toNat (↑x :
  Int) < List.length (vecF (IntKind.wrap IntKind.i64 (IntKind.wrap IntKind.i64 ((1 : Int) + Int.tmod (IntKind.wrap IntKind.i64 n) (8 : Int)) - (1 : Int))) (Int.tmod (IntKind.wrap IntKind.i64 k) (13 : Int)) (Int.tmod
  (IntKind.wrap IntKind.i64 i) (countF (IntKind.wrap IntKind.i64 (IntKind.wrap IntKind.i64 ((1 : Int) + Int.tmod (IntKind.wrap IntKind.i64 n) (8 : Int)) - (1 : Int))) (Int.tmod (IntKind.wrap IntKind.i64 k) (13 : Int)))))) ∧
  bif !decide (List.getD (vecF (IntKind.wrap IntKind.i64 ((1 : Int) + Int.tmod (IntKind.wrap IntKind.i64 n) (8 : Int))) (Int.tmod (IntKind.wrap IntKind.i64 k) (13 : Int)) (Int.tmod (IntKind.wrap IntKind.i64 i) (countF
  (IntKind.wrap IntKind.i64 (IntKind.wrap IntKind.i64 ((1 : Int) + Int.tmod (IntKind.wrap IntKind.i64 n) (8 : Int)) - (1 : Int))) (Int.tmod (IntKind.wrap IntKind.i64 k) (13 : Int))))) ((0 : Nat) + Int.toNat (IntKind.wrap
  IntKind.i64 ((↑x : Int) + (1 : Int)))) (0 : Int) = List.getD (vecF (IntKind.wrap IntKind.i64 (IntKind.wrap IntKind.i64 ((1 : Int) + Int.tmod (IntKind.wrap IntKind.i64 n) (8 : Int)) - (1 : Int))) (Int.tmod (IntKind.wrap
  IntKind.i64 k) (13 : Int)) (Int.tmod (IntKind.wrap IntKind.i64 i) (countF (IntKind.wrap IntKind.i64 (IntKind.wrap IntKind.i64 ((1 : Int) + Int.tmod (IntKind.wrap IntKind.i64 n) (8 : Int)) - (1 : Int))) (Int.tmod
  (IntKind.wrap IntKind.i64 k) (13 : Int))))) ((0 : Nat) + Int.toNat (↑x : Int)) (0 : Int)) then false = true else ∃ (y : Nat), ((0 : Nat) = (0 : Nat) ∧ List.length (vecF (IntKind.wrap IntKind.i64 ((1 : Int) + Int.tmod
  (IntKind.wrap IntKind.i64 n) (8 : Int))) (Int.tmod (IntKind.wrap IntKind.i64 k) (13 : Int)) (Int.tmod (IntKind.wrap IntKind.i64 i) (countF (IntKind.wrap IntKind.i64 (IntKind.wrap IntKind.i64 ((1 : Int) + Int.tmod
  (IntKind.wrap IntKind.i64 n) (8 : Int)) - (1 : Int))) (Int.tmod (IntKind.wrap IntKind.i64 k) (13 : Int))))) = List.length (vecF (IntKind.wrap IntKind.i64 ((1 : Int) + Int.tmod (IntKind.wrap IntKind.i64 n) (8 : Int)))
  (Int.tmod (IntKind.wrap IntKind.i64 k) (13 : Int)) (Int.tmod (IntKind.wrap IntKind.i64 i) (countF (IntKind.wrap IntKind.i64 (IntKind.wrap IntKind.i64 ((1 : Int) + Int.tmod (IntKind.wrap IntKind.i64 n) (8 : Int)) - (1 :
  Int))) (Int.tmod (IntKind.wrap IntKind.i64 k) (13 : Int))))) ∧ (0 : Nat) = (0 : Nat) ∧ List.length (vecF (IntKind.wrap IntKind.i64 (IntKind.wrap IntKind.i64 ((1 : Int) + Int.tmod (IntKind.wrap IntKind.i64 n) (8 : Int)) -
  (1 : Int))) (Int.tmod (IntKind.wrap IntKind.i64 k) (13 : Int)) (Int.tmod (IntKind.wrap IntKind.i64 i) (countF (IntKind.wrap IntKind.i64 (IntKind.wrap IntKind.i64 ((1 : Int) + Int.tmod (IntKind.wrap IntKind.i64 n) (8 :
  Int)) - (1 : Int))) (Int.tmod (IntKind.wrap IntKind.i64 k) (13 : Int))))) = List.length (vecF (IntKind.wrap IntKind.i64 (IntKind.wrap IntKind.i64 ((1 : Int) + Int.tmod (IntKind.wrap IntKind.i64 n) (8 : Int)) - (1 : Int)))
  (Int.tmod (IntKind.wrap IntKind.i64 k) (13 : Int)) (Int.tmod (IntKind.wrap IntKind.i64 i) (countF (IntKind.wrap IntKind.i64 (IntKind.wrap IntKind.i64 ((1 : Int) + Int.tmod (IntKind.wrap IntKind.i64 n) (8 : Int)) - (1 :
  Int))) (Int.tmod (IntKind.wrap IntKind.i64 k) (13 : Int))))) ∧ IntKind.wrap IntKind.i64 ((↑x : Int) + (1 : Int)) = (↑y : Int) ∧ vecF (IntKind.wrap IntKind.i64 ((1 : Int) + Int.tmod (IntKind.wrap IntKind.i64 n) (8 : Int)))
  (Int.tmod (IntKind.wrap IntKind.i64 k) (13 : Int)) (Int.tmod (IntKind.wrap IntKind.i64 i) (countF (IntKind.wrap IntKind.i64 (IntKind.wrap IntKind.i64 ((1 : Int) + Int.tmod (IntKind.wrap IntKind.i64 n) (8 : Int)) - (1 :
  Int))) (Int.tmod (IntKind.wrap IntKind.i64 k) (13 : Int)))) = vecF (IntKind.wrap IntKind.i64 ((1 : Int) + Int.tmod (IntKind.wrap IntKind.i64 n) (8 : Int))) (Int.tmod (IntKind.wrap IntKind.i64 k) (13 : Int)) (Int.tmod
  (IntKind.wrap IntKind.i64 i) (countF (IntKind.wrap IntKind.i64 (IntKind.wrap IntKind.i64 ((1 : Int) + Int.tmod (IntKind.wrap IntKind.i64 n) (8 : Int)) - (1 : Int))) (Int.tmod (IntKind.wrap IntKind.i64 k) (13 : Int)))) ∧
  false = false ∧ vecF (IntKind.wrap IntKind.i64 (IntKind.wrap IntKind.i64 ((1 : Int) + Int.tmod (IntKind.wrap IntKind.i64 n) (8 : Int)) - (1 : Int))) (Int.tmod (IntKind.wrap IntKind.i64 k) (13 : Int)) (Int.tmod
  (IntKind.wrap IntKind.i64 i) (countF (IntKind.wrap IntKind.i64 (IntKind.wrap IntKind.i64 ((1 : Int) + Int.tmod (IntKind.wrap IntKind.i64 n) (8 : Int)) - (1 : Int))) (Int.tmod (IntKind.wrap IntKind.i64 k) (13 : Int)))) =
  vecF (IntKind.wrap IntKind.i64 (IntKind.wrap IntKind.i64 ((1 : Int) + Int.tmod (IntKind.wrap IntKind.i64 n) (8 : Int)) - (1 : Int))) (Int.tmod (IntKind.wrap IntKind.i64 k) (13 : Int)) (Int.tmod (IntKind.wrap IntKind.i64
  i) (countF (IntKind.wrap IntKind.i64 (IntKind.wrap IntKind.i64 ((1 : Int) + Int.tmod (IntKind.wrap IntKind.i64 n) (8 : Int)) - (1 : Int))) (Int.tmod (IntKind.wrap IntKind.i64 k) (13 : Int)))) ∧ false = false) ∧ y ≤
  List.length (vecF (IntKind.wrap IntKind.i64 (IntKind.wrap IntKind.i64 ((1 : Int) + Int.tmod (IntKind.wrap IntKind.i64 n) (8 : Int)) - (1 : Int))) (Int.tmod (IntKind.wrap IntKind.i64 k) (13 : Int)) (Int.tmod (IntKind.wrap
  IntKind.i64 i) (countF (IntKind.wrap IntKind.i64 (IntKind.wrap IntKind.i64 ((1 : Int) + Int.tmod (IntKind.wrap IntKind.i64 n) (8 : Int)) - (1 : Int))) (Int.tmod (IntKind.wrap IntKind.i64 k) (13 : Int))))) ∧ List.length
  (vecF (IntKind.wrap IntKind.i64 (IntKind.wrap IntKind.i64 ((1 : Int) + Int.tmod (IntKind.wrap IntKind.i64 n) (8 : Int)) - (1 : Int))) (Int.tmod (IntKind.wrap IntKind.i64 k) (13 : Int)) (Int.tmod (IntKind.wrap IntKind.i64
  i) (countF (IntKind.wrap IntKind.i64 (IntKind.wrap IntKind.i64 ((1 : Int) + Int.tmod (IntKind.wrap IntKind.i64 n) (8 : Int)) - (1 : Int))) (Int.tmod (IntKind.wrap IntKind.i64 k) (13 : Int))))) - y < List.length (vecF
  (IntKind.wrap IntKind.i64 (IntKind.wrap IntKind.i64 ((1 : Int) + Int.tmod (IntKind.wrap IntKind.i64 n) (8 : Int)) - (1 : Int))) (Int.tmod (IntKind.wrap IntKind.i64 k) (13 : Int)) (Int.tmod (IntKind.wrap IntKind.i64 i)
  (countF (IntKind.wrap IntKind.i64 (IntKind.wrap IntKind.i64 ((1 : Int) + Int.tmod (IntKind.wrap IntKind.i64 n) (8 : Int)) - (1 : Int))) (Int.tmod (IntKind.wrap IntKind.i64 k) (13 : Int))))) - x else true = true
theorem vc11 (n k i : Int) : P11 n k i = vcFun C11 (ann11 n k i) Go.Proofs.Try.f11 [⟨.int .u8, n⟩, ⟨.int .u8, k⟩, ⟨.int .u32, i⟩] [] (out11 n k i) := by kernel_rfl

end Go.SL.A

namespace Go.SL.A
open Go Go.SL Go.SL.S

theorem pure11 (n k i : Int) (hw : (0 ≤ n ∧ n ≤ 255) ∧ (0 ≤ k ∧ k ≤ 255) ∧ 0 ≤ i ∧ i ≤ 4294967295) : P11 n k i := by
  unfold P11
  obtain ⟨⟨a1, a2⟩, ⟨b1, b2⟩, c1, c2⟩ := hw
  rw [w64 (n := n) (by omega) (by omega), w64 (n := k) (by omega) (by omega), w64 (n := i) (by omega) (by omega)]
  have d1 := tdm n (k := 8) (by decide)
  have d2 := tdm k (k := 13) (by decide)
  generalize n.tmod 8 = m at *
  generalize k.tmod 13 = q at *
  rw [w64 (n := 1 + m) (by omega) (by omega), show 1 + m - 1 = m by omega, w64 (n := m) (by omega) (by omega), show 1 + m = m + 1 by omega]
  refine ⟨by decide, ?_⟩
  by_cases hz : countF m q = 0
  · have := countF_zero (by omega) hz
    simp only [hz, decide_true, cond_true]
    rintro _ rfl
    have h1 : m + 1 = 1 := by omega
    simp [h1, this.2]
  have hc := countF_fits m q
  have d3 := tdm i (k := countF m q) (by omega)
  have hu := countF_up (m := m) (q := q) (by omega)
  generalize i.tmod (countF m q) = at0 at *
  obtain ⟨v1, v2, v3, v4, v5, v6⟩ := vec_ok (n := m) (k := q) (i := at0) (by omega) (by omega) (by omega)
  obtain ⟨u1, u2, u3, u4, u5, u6⟩ := vec_ok (n := m + 1) (k := q) (i := at0) (by omega) (by omega) (by omega)
  have hsp := vec_split (m := m) (q := q) (i := at0) (by omega) (by omega) (by omega)
  simp only [hz, decide_false, cond_false, u1, v1, u2, v2, decide_true, Bool.not_true]
  rw [hsp]
  generalize vecF m q at0 = w at *
  refine ⟨hz, ?_⟩
  rintro _ rfl _ rfl _ rfl _ rfl
  have hl : ((0 :: w).length : Int) = m + 1 := by rw [← hsp]; exact u2
  have hl0 : (0 : Int) < ((0 :: w).length : Int) := by rw [List.length_cons]; omega
  simp only [cond_false, Bool.not_false, hl0, List.getD_cons_zero, decide_true, Bool.not_true, Int.toNat_natCast, Nat.zero_add, eq_self, true_and, and_true, and_self, forall_const]
  refine ⟨by simp [show 0 < m + 1 by omega], 0, ⟨by simp, by omega⟩, fun j hj _ => ?_⟩
  by_cases hjl : (j : Int) < m
  · have wj : IntKind.i64.wrap ((j : Int) + 1) = ((j + 1 : Nat) : Int) := by rw [w64 (by omega) (by omega)]; simp
    simp only [hjl, decide_true, cond_true, wj, Int.toNat_natCast, List.getD_cons_succ, Bool.not_true, cond_false]
    refine ⟨⟨by omega, by rw [List.length_cons]; omega, by simp, by omega⟩, j + 1, rfl, by omega, by omega⟩
  · simp only [hjl, decide_false, cond_false]

theorem hw11 {n k i : Int} (hw : allP (List.flatMap (fun a : AV => a.t.wf a.x) [⟨.int .u8, n⟩, ⟨.int .u8, k⟩, ⟨.int .u32, i⟩] ++ List.flatMap Blk.wf [])) : (0 ≤ n ∧ n ≤ 255) ∧ (0 ≤ k ∧ k ≤ 255) ∧ 0 ≤ i ∧ i ≤ 4294967295 := by
  simp only [List.flatMap_cons, List.flatMap_nil, Ty.wf, List.append_nil, List.cons_append, List.nil_append, allP] at hw
  exact ⟨⟨hw.1, hw.2.1⟩, ⟨hw.2.2.1, hw.2.2.2.1⟩, hw.2.2.2.2.1, hw.2.2.2.2.2⟩

end Go.SL.A

/- Functions do what they are held to do. -/
namespace Go.SL.A
open Go Go.SL Go.SL.S
theorem snd11 : Sound Go.Proofs.Try.prog G11 := snd46.add ⟨_, Go.Proofs.Try.func11, by kernel_rfl, by kernel_rfl⟩ (by
  intro args ins out h hp
  unfold sp11 at h
  split at h
  · rename_i n k i
    cases h
    exact vcFun_ok (C := C11) good snd46 Meth.none mix Go.Proofs.Try.func11 (ann11 n k i) (fun hw => by rw [← vc11 n k i]; exact pure11 n k i (hw11 hw))
  · cases h)

end Go.SL.A

/- PvqSplit: the law returns true, whatever its arguments; each argument reads afterwards as before. No condition. -/
namespace Go.Proofs.Ythhfccnhkadkcaa
open Go Go.SL Go.SL.S Go.ChangeShapes Go.WideShapes Go.ChangeAt Go.WideMaps Go.WideElems Go.RowKit
set_option maxRecDepth 100000

theorem parsT : ((Go.Proofs.Try.f11.params.toList).all fun t => Nat.blt t Go.Proofs.Try.prog.types.size) = true := by kernel_rfl
theorem parsL : Go.Proofs.Try.f11.params.toList = [5, 5, 42] := by kernel_rfl
theorem law_pure : ∀ avs bls, argsOk Go.SL.A.D Go.Proofs.Try.f11.params.toList 0 avs bls → VCall Go.Proofs.Try.prog 11 avs bls ⟨[], .v .bool true, [], []⟩ := by
  rw [parsL]
  intro avs bls h
  replace h : ∃ (t : Ty) (x : t.I) (avs' : List AV), Go.SL.A.D.ty 5 = some t ∧ avs = ⟨t, x⟩ :: avs' ∧ argsOk Go.SL.A.D [5, 42] 0 avs' bls := h
  obtain ⟨t, x0, avs, ht, rfl, h⟩ := h
  obtain rfl : .int .u8 = t := Option.some.inj ((show (some (.int .u8) : Option Ty) = Go.SL.A.D.ty 5 by kernel_rfl).trans ht)
  replace h : ∃ (t : Ty) (x : t.I) (avs' : List AV), Go.SL.A.D.ty 5 = some t ∧ avs = ⟨t, x⟩ :: avs' ∧ argsOk Go.SL.A.D [42] 0 avs' bls := h
  obtain ⟨t, x1, avs, ht, rfl, h⟩ := h
  obtain rfl : .int .u8 = t := Option.some.inj ((show (some (.int .u8) : Option Ty) = Go.SL.A.D.ty 5 by kernel_rfl).trans ht)
  replace h : ∃ (t : Ty) (x : t.I) (avs' : List AV), Go.SL.A.D.ty 42 = some t ∧ avs = ⟨t, x⟩ :: avs' ∧ argsOk Go.SL.A.D [] 0 avs' bls := h
  obtain ⟨t, x2, avs, ht, rfl, h⟩ := h
  obtain rfl : .int .u32 = t := Option.some.inj ((show (some (.int .u32) : Option Ty) = Go.SL.A.D.ty 42 by kernel_rfl).trans ht)
  obtain ⟨rfl, rfl⟩ : avs = [] ∧ bls = [] := h
  have q := (Go.SL.A.snd11 11 Go.SL.A.sp11 rfl).2 [⟨.int .u8, x0⟩, ⟨.int .u8, x1⟩, ⟨.int .u32, x2⟩] [] _ rfl (trivial)
  exact q

theorem lifted (os : Os) (started : os.Started) (H : Type) (enc : TypeId × Value → H) :
    ReturnsInHanded {} Go.Proofs.Try.checked os 11 .any (Rows.pvqSplitSpec.pre6 enc Go.Proofs.Try.prog Go.Proofs.Try.f11 Rows.pvqSplitRow.domain false) (Rows.pvqSplitSpec.post enc Go.Proofs.Try.prog Go.Proofs.Try.f11 false true false false) := by
  refine returnsInHanded_of_change (C := Go.Proofs.Try.checked) Seat.own started (by kernel_rfl) Go.Proofs.Try.func11
    (ChangeSpec.witness6 (enc := enc) (C := Go.Proofs.Try.checked) false ⟨#[], #[.int .u8 0, .int .u8 0, .int .u32 0], []⟩ 8 (by kernel_rfl) (by kernel_rfl) (by kernel_rfl) (by kernel_rfl)) ?_
  intro W base args ds gs before hval hW _ _
  refine law_calls (D := Go.SL.A.D) Go.SL.A.good Seat.kids Seat.slicesFull (fun t ht => Nat.le_of_ble_eq_true (List.all_eq_true.1 parsT t ht)) (by kernel_rfl) (show Go.Proofs.Try.f11.resultTypes = #[4] by kernel_rfl) Go.Proofs.Try.underlying4 rfl (fun ds h => ?_) law_pure hval hW
  have h : ds.length = 3 := h
  match ds, h with
  | [_, _, _], _ => rfl

theorem joined : joinedFacts Go.Proofs.Try.prog 11 Go.Proofs.Try.f11 Rows.pvqSplitSpec Rows.pvqSplitRow = true := by
  unfold joinedFacts
  exact (andT (andT (andT (andT (andT (andT (andT (andT (andT (andT (andT (andT (andT (andT (andT (andT (andT (andT (andT (andT (andT (andT (andT (andT (andT (andT (andT (andT (andT (andT (andT (by as_aux_lemma => kernel_rfl) Seat.laidOut) Seat.mapsRowed) (by as_aux_lemma => kernel_rfl)) (by as_aux_lemma => kernel_rfl)) (by as_aux_lemma => kernel_rfl)) Seat.stops) (by as_aux_lemma => kernel_rfl)) Seat.knobs) (by as_aux_lemma => kernel_rfl)) (by as_aux_lemma => kernel_rfl)) (by as_aux_lemma => kernel_rfl)) (by as_aux_lemma => kernel_rfl)) (by as_aux_lemma => kernel_rfl)) (by as_aux_lemma => kernel_rfl)) (by as_aux_lemma => kernel_rfl)) (by as_aux_lemma => kernel_rfl)) (by as_aux_lemma => kernel_rfl)) (by as_aux_lemma => kernel_rfl)) (by as_aux_lemma => kernel_rfl)) (by as_aux_lemma => kernel_rfl)) (by as_aux_lemma => kernel_rfl)) (by as_aux_lemma => kernel_rfl)) (by as_aux_lemma => kernel_rfl)) Seat.heard) Seat.mayEnter) (by rw [Seat.lifts]; rfl)) (by rw [Seat.made]; rfl)) (by as_aux_lemma => kernel_rfl)) (by as_aux_lemma => kernel_rfl)) (by as_aux_lemma => kernel_rfl)) (by as_aux_lemma => kernel_rfl))

theorem pvqSplit_holds : Rows.PvqSplitSaid :=
  OpenClaim.holds_of_wide 11 Go.Proofs.Try.f11 rfl rfl rfl rfl rfl rfl rfl ⟨rfl, rfl, rfl, rfl, rfl⟩ rfl rfl rfl rfl rfl (by kernel_rfl) Go.Proofs.Try.func11 joined
    (of_decide_eq_true (by kernel_rfl)) (by unfold Func.isWrapper; first | (rw [if_pos (by decide +kernel)]; kernel_rfl) | (rw [if_neg (by decide +kernel)]; exact ⟨rfl, rfl⟩))
    (fun os started H enc _ => lifted os started H enc)

#print axioms pvqSplit_holds
end Go.Proofs.Ythhfccnhkadkcaa
