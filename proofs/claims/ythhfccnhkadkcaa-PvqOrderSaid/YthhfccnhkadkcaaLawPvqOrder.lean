/- PvqOrder returns true, whatever its arguments, which read afterwards as before: no condition. -/
import Derived.Test.YthhfccnhkadkcaaRows
import Derived.Test.YthhfccnhkadkcaaPvq
import Derived.Test.YthhfccnhkadkcaaPvqB
import Derived.Test.YthhfccnhkadkcaaKb
import Derived.Test.YthhfccnhkadkcaaT

/- Functions and what they are held to do: bound to their code. -/
namespace Go.SL.A
open Go Go.SL Go.SL.S
set_option maxRecDepth 100000
noncomputable def C9 : Ctx := ⟨Go.Proofs.Try.prog, D, G46, (fun _ _ => none), fun _ => []⟩
def ann9 (n k i j : Int) : Nat → St → Option Ann := fun id S => some ⟨Nat, [9, 12, 13, 14, 16], [0, 1], fun x => [(18, .v (.int .i64) (x : Int))], fun _ => [], fun x => x ≤ (S.i 9).toNat ∧ (S.xs 0 (.int .i64)).take x = (S.xs 1 (.int .i64)).take x, fun x => (S.i 9).toNat - x⟩
def out9 (n k i j : Int) : COut := ⟨[], .v .bool true, [], []⟩
def sp9 : Spec := fun args ins => match args, ins with
  | [⟨.int .u8, n⟩, ⟨.int .u8, k⟩, ⟨.int .u32, i⟩, ⟨.int .u32, j⟩], [] => some (out9 n k i j)
  | _, _ => none
def G9 := addG G46 9 sp9
def P9 (n k i j : Int) : Prop :=
  ((9 : Int) ≠ (0 : Int) ∧ (13 : Int) ≠ (0 : Int)) ∧ bif decide (countF (Int.tmod (IntKind.wrap IntKind.i64 n) (9 : Int)) (Int.tmod (IntKind.wrap IntKind.i64 k) (13 : Int)) = (0 : Int)) then true = true else (countF
  (Int.tmod (IntKind.wrap IntKind.i64 n) (9 : Int)) (Int.tmod (IntKind.wrap IntKind.i64 k) (13 : Int)) ≠ (0 : Int) ∧ countF (Int.tmod (IntKind.wrap IntKind.i64 n) (9 : Int)) (Int.tmod (IntKind.wrap IntKind.i64 k) (13 :
  Int)) ≠ (0 : Int)) ∧ ∃ (x : Nat), ((Int.tmod (IntKind.wrap IntKind.i64 n) (9 : Int) = Int.tmod (IntKind.wrap IntKind.i64 n) (9 : Int) ∧ Int.tmod (IntKind.wrap IntKind.i64 i) (countF (Int.tmod (IntKind.wrap IntKind.i64 n)
  (9 : Int)) (Int.tmod (IntKind.wrap IntKind.i64 k) (13 : Int))) = Int.tmod (IntKind.wrap IntKind.i64 i) (countF (Int.tmod (IntKind.wrap IntKind.i64 n) (9 : Int)) (Int.tmod (IntKind.wrap IntKind.i64 k) (13 : Int))) ∧
  Int.tmod (IntKind.wrap IntKind.i64 j) (countF (Int.tmod (IntKind.wrap IntKind.i64 n) (9 : Int)) (Int.tmod (IntKind.wrap IntKind.i64 k) (13 : Int))) = Int.tmod (IntKind.wrap IntKind.i64 j) (countF (Int.tmod (IntKind.wrap
  IntKind.i64 n) (9 : Int)) (Int.tmod (IntKind.wrap IntKind.i64 k) (13 : Int))) ∧ (0 : Nat) = (0 : Nat) ∧ List.length (vecF (Int.tmod (IntKind.wrap IntKind.i64 n) (9 : Int)) (Int.tmod (IntKind.wrap IntKind.i64 k) (13 :
  Int)) (Int.tmod (IntKind.wrap IntKind.i64 i) (countF (Int.tmod (IntKind.wrap IntKind.i64 n) (9 : Int)) (Int.tmod (IntKind.wrap IntKind.i64 k) (13 : Int))))) = List.length (vecF (Int.tmod (IntKind.wrap IntKind.i64 n) (9 :
  Int)) (Int.tmod (IntKind.wrap IntKind.i64 k) (13 : Int)) (Int.tmod (IntKind.wrap IntKind.i64 i) (countF (Int.tmod (IntKind.wrap IntKind.i64 n) (9 : Int)) (Int.tmod (IntKind.wrap IntKind.i64 k) (13 : Int))))) ∧ (0 : Nat) =
  (0 : Nat) ∧ List.length (vecF (Int.tmod (IntKind.wrap IntKind.i64 n) (9 : Int)) (Int.tmod (IntKind.wrap IntKind.i64 k) (13 : Int)) (Int.tmod (IntKind.wrap IntKind.i64 j) (countF (Int.tmod (IntKind.wrap IntKind.i64 n) (9 :
  Int)) (Int.tmod (IntKind.wrap IntKind.i64 k) (13 : Int))))) = List.length (vecF (Int.tmod (IntKind.wrap IntKind.i64 n) (9 : Int)) (Int.tmod (IntKind.wrap IntKind.i64 k) (13 : Int)) (Int.tmod (IntKind.wrap IntKind.i64 j)
  (countF (Int.tmod (IntKind.wrap IntKind.i64 n) (9 : Int)) (Int.tmod (IntKind.wrap IntKind.i64 k) (13 : Int))))) ∧ (0 : Int) = (↑x : Int) ∧ vecF (Int.tmod (IntKind.wrap IntKind.i64 n) (9 : Int)) (Int.tmod (IntKind.wrap
  IntKind.i64 k) (13 : Int)) (Int.tmod (IntKind.wrap IntKind.i64 i) (countF (Int.tmod (IntKind.wrap IntKind.i64 n) (9 : Int)) (Int.tmod (IntKind.wrap IntKind.i64 k) (13 : Int)))) = vecF (Int.tmod (IntKind.wrap IntKind.i64
  n) (9 : Int)) (Int.tmod (IntKind.wrap IntKind.i64 k) (13 : Int)) (Int.tmod (IntKind.wrap IntKind.i64 i) (countF (Int.tmod (IntKind.wrap IntKind.i64 n) (9 : Int)) (Int.tmod (IntKind.wrap IntKind.i64 k) (13 : Int)))) ∧
  false = false ∧ vecF (Int.tmod (IntKind.wrap IntKind.i64 n) (9 : Int)) (Int.tmod (IntKind.wrap IntKind.i64 k) (13 : Int)) (Int.tmod (IntKind.wrap IntKind.i64 j) (countF (Int.tmod (IntKind.wrap IntKind.i64 n) (9 : Int))
  (Int.tmod (IntKind.wrap IntKind.i64 k) (13 : Int)))) = vecF (Int.tmod (IntKind.wrap IntKind.i64 n) (9 : Int)) (Int.tmod (IntKind.wrap IntKind.i64 k) (13 : Int)) (Int.tmod (IntKind.wrap IntKind.i64 j) (countF (Int.tmod
  (IntKind.wrap IntKind.i64 n) (9 : Int)) (Int.tmod (IntKind.wrap IntKind.i64 k) (13 : Int)))) ∧ false = false) ∧ x ≤ Int.toNat (Int.tmod (IntKind.wrap IntKind.i64 n) (9 : Int)) ∧ List.take x (vecF (Int.tmod (IntKind.wrap
  IntKind.i64 n) (9 : Int)) (Int.tmod (IntKind.wrap IntKind.i64 k) (13 : Int)) (Int.tmod (IntKind.wrap IntKind.i64 i) (countF (Int.tmod (IntKind.wrap IntKind.i64 n) (9 : Int)) (Int.tmod (IntKind.wrap IntKind.i64 k) (13 :
  Int))))) = List.take x (vecF (Int.tmod (IntKind.wrap IntKind.i64 n) (9 : Int)) (Int.tmod (IntKind.wrap IntKind.i64 k) (13 : Int)) (Int.tmod (IntKind.wrap IntKind.i64 j) (countF (Int.tmod (IntKind.wrap IntKind.i64 n) (9 :
  Int)) (Int.tmod (IntKind.wrap IntKind.i64 k) (13 : Int)))))) ∧ ∀ (x : Nat), x ≤ Int.toNat (Int.tmod (IntKind.wrap IntKind.i64 n) (9 : Int)) ∧ List.take x (vecF (Int.tmod (IntKind.wrap IntKind.i64 n) (9 : Int)) (Int.tmod
  (IntKind.wrap IntKind.i64 k) (13 : Int)) (Int.tmod (IntKind.wrap IntKind.i64 i) (countF (Int.tmod (IntKind.wrap IntKind.i64 n) (9 : Int)) (Int.tmod (IntKind.wrap IntKind.i64 k) (13 : Int))))) = List.take x (vecF (Int.tmod
  (IntKind.wrap IntKind.i64 n) (9 : Int)) (Int.tmod (IntKind.wrap IntKind.i64 k) (13 : Int)) (Int.tmod (IntKind.wrap IntKind.i64 j) (countF (Int.tmod (IntKind.wrap IntKind.i64 n) (9 : Int)) (Int.tmod (IntKind.wrap
  IntKind.i64 k) (13 : Int))))) → IntKind.min IntKind.i64 ≤ (↑x : Int) ∧ (↑x : Int) ≤ IntKind.max IntKind.i64 → ∀ (b : Bool), decide ((↑x : Int) < Int.tmod (IntKind.wrap IntKind.i64 n) (9 : Int)) = b → ∀ (b_1 : Bool), (bif
  b then decide ((↑(List.length (vecF (Int.tmod (IntKind.wrap IntKind.i64 n) (9 : Int)) (Int.tmod (IntKind.wrap IntKind.i64 k) (13 : Int)) (Int.tmod (IntKind.wrap IntKind.i64 i) (countF (Int.tmod (IntKind.wrap IntKind.i64
  n) (9 : Int)) (Int.tmod (IntKind.wrap IntKind.i64 k) (13 : Int)))))) : Int) = Int.tmod (IntKind.wrap IntKind.i64 n) (9 : Int)) else false) = b_1 → ((b = true → b = true) ∧ (b = true → b = true ∧ b = true) ∧ (b = true → b
  = true) ∧ (b_1 = true → b_1 = true) ∧ (b_1 = true → b_1 = true ∧ b_1 = true) ∧ (b_1 = true → b_1 = true)) ∧ bif bif b_1 then decide ((↑(List.length (vecF (Int.tmod (IntKind.wrap IntKind.i64 n) (9 : Int)) (Int.tmod
  (IntKind.wrap IntKind.i64 k) (13 : Int)) (Int.tmod (IntKind.wrap IntKind.i64 j) (countF (Int.tmod (IntKind.wrap IntKind.i64 n) (9 : Int)) (Int.tmod (IntKind.wrap IntKind.i64 k) (13 : Int)))))) : Int) = Int.tmod
  (IntKind.wrap IntKind.i64 n) (9 : Int)) else false then (((0 : Int) ≤ (↑x : Int) ∧ (↑x : Int) < (↑(List.length (vecF (Int.tmod (IntKind.wrap IntKind.i64 n) (9 : Int)) (Int.tmod (IntKind.wrap IntKind.i64 k) (13 : Int))
  (Int.tmod (IntKind.wrap IntKind.i64 i) (countF (Int.tmod (IntKind.wrap IntKind.i64 n) (9 : Int)) (Int.tmod (IntKind.wrap IntKind.i64 k) (13 : Int)))))) : Int)) ∧ (0 : Nat) + Int.toNat (↑x : Int) < List.length (vecF
  (Int.tmod (IntKind.wrap IntKind.i64 n) (9 : Int)) (Int.tmod (IntKind.wrap IntKind.i64 k) (13 : Int)) (Int.tmod (IntKind.wrap IntKind.i64 i) (countF (Int.tmod (IntKind.wrap IntKind.i64 n) (9 : Int)) (Int.tmod (IntKind.wrap
  IntKind.i64 k) (13 : Int))))) ∧ ((0 : Int) ≤ (↑x : Int) ∧ (↑x : Int) < (↑(List.length (vecF (Int.tmod (IntKind.wrap IntKind.i64 n) (9 : Int)) (Int.tmod (IntKind.wrap IntKind.i64 k) (13 : Int)) (Int.tmod (IntKind.wrap
  IntKind.i64 j) (countF (Int.tmod (IntKind.wrap IntKind.i64 n) (9 : Int)) (Int.tmod (IntKind.wrap IntKind.i64 k) (13 : Int)))))) : Int)) ∧ (0 : Nat) + Int.toNat (↑x : Int) < List.length (vecF (Int.tmod (IntKind.wrap
  IntKind.i64 n) (9 : Int)) (Int.tmod (IntKind.wrap IntKind.i64 k) (13 : Int)) (Int.tmod (IntKind.wrap IntKind.i64 j) (countF (Int.tmod (IntKind.wrap IntKind.i64 n) (9 : Int)) (Int.tmod (IntKind.wrap IntKind.i64 k) (13 :
  Int)))))) ∧ bif !decide (List.getD (vecF (Int.tmod (IntKind.wrap IntKind.i64 n) (9 : Int)) (Int.tmod (IntKind.wrap IntKind.i64 k) (13 : Int)) (Int.tmod (IntKind.wrap IntKind.i64 i) (countF (Int.tmod (IntKind.wrap
  IntKind.i64 n) (9 : Int)) (Int.tmod (IntKind.wrap IntKind.i64 k) (13 : Int))))) ((0 : Nat) + Int.toNat (↑x : Int)) (0 : Int) = List.getD (vecF (Int.tmod (IntKind.wrap IntKind.i64 n) (9 : Int)) (Int.tmod (IntKind.wrap
  IntKind.i64 k) (13 : Int)) (Int.tmod (IntKind.wrap IntKind.i64 j) (countF (Int.tmod (IntKind.wrap IntKind.i64 n) (9 : Int)) (Int.tmod (IntKind.wrap IntKind.i64 k) (13 : Int))))) ((0 : Nat) + Int.toNat (↑x : Int)) (0 :
  Int)) then (((0 : Int) ≤ (↑x : Int) ∧ (↑x : Int) < (↑(List.length (vecF (Int.tmod (IntKind.wrap IntKind.i64 n) (9 : Int)) (Int.tmod (IntKind.wrap IntKind.i64 k) (13 : Int)) (Int.tmod (IntKind.wrap IntKind.i64 i) (countF
  (Int.tmod (IntKind.wrap IntKind.i64 n) (9 : Int)) (Int.tmod (IntKind.wrap IntKind.i64 k) (13 : Int)))))) : Int)) ∧ (0 : Nat) + Int.toNat (↑x : Int) < List.length (vecF (Int.tmod (IntKind.wrap IntKind.i64 n) (9 : Int))
  (Int.tmod (IntKind.wrap IntKind.i64 k) (13 : Int)) (Int.tmod (IntKind.wrap IntKind.i64 i) (countF (Int.tmod (IntKind.wrap IntKind.i64 n) (9 : Int)) (Int.tmod (IntKind.wrap IntKind.i64 k) (13 : Int))))) ∧ ((0 : Int) ≤ (↑x
  : Int) ∧ (↑x : Int) < (↑(List.length (vecF (Int.tmod (IntKind.wrap IntKind.i64 n) (9 : Int)) (Int.tmod (IntKind.wrap IntKind.i64 k) (13 : Int)) (Int.tmod (IntKind.wrap IntKind.i64 j) (countF (Int.tmod (IntKind.wrap
  IntKind.i64 n) (9 : Int)) (Int.tmod (IntKind.wrap IntKind.i64 k) (13 : Int)))))) : Int)) ∧ (0 : Nat) + Int.toNat (↑x : Int) < List.length (vecF (Int.tmod (IntKind.wrap IntKind.i64 n) (9 : Int)) (Int.tmod (IntKind.wrap
  IntKind.i64 k) (13 : Int)) (Int.tmod (IntKind.wrap IntKind.i64 j) (countF (Int.tmod (IntKind.wrap IntKind.i64 n) (9 : Int)) (Int.tmod (IntKind.wrap IntKind.i64 k) (13 : Int)))))) ∧ (decide (Int.tmod (IntKind.wrap
  IntKind.i64 i) (countF (Int.tmod (IntKind.wrap IntKind.i64 n) (9 : Int)) (Int.tmod (IntKind.wrap IntKind.i64 k) (13 : Int))) < Int.tmod (IntKind.wrap IntKind.i64 j) (countF (Int.tmod (IntKind.wrap IntKind.i64 n) (9 :
  Int)) (Int.tmod (IntKind.wrap IntKind.i64 k) (13 : Int)))) == decide (rankF (List.getD (vecF (Int.tmod (IntKind.wrap IntKind.i64 n) (9 : Int)) (Int.tmod (IntKind.wrap IntKind.i64 k) (13 : Int)) (Int.tmod (IntKind.wrap
  IntKind.i64 i) (countF (Int.tmod (IntKind.wrap IntKind.i64 n) (9 : Int)) (Int.tmod (IntKind.wrap IntKind.i64 k) (13 : Int))))) ((0 : Nat) + Int.toNat (↑x : Int)) (0 : Int)) < rankF (List.getD (vecF (Int.tmod (IntKind.wrap
  IntKind.i64 n) (9 : Int)) (Int.tmod (IntKind.wrap IntKind.i64 k) (13 : Int)) (Int.tmod (IntKind.wrap IntKind.i64 j) (countF (Int.tmod (IntKind.wrap IntKind.i64 n) (9 : Int)) (Int.tmod (IntKind.wrap IntKind.i64 k) (13 :
  Int))))) ((0 : Nat) + Int.toNat (↑x : Int)) (0 : Int)))) = true else ∃ (y : Nat), (Int.tmod (IntKind.wrap IntKind.i64 n) (9 : Int) = Int.tmod (IntKind.wrap IntKind.i64 n) (9 : Int) ∧ Int.tmod (IntKind.wrap IntKind.i64 i)
  (countF (Int.tmod (IntKind.wrap IntKind.i64 n) (9 : Int)) (Int.tmod (IntKind.wrap IntKind.i64 k) (13 : Int))) = Int.tmod (IntKind.wrap IntKind.i64 i) (countF (Int.tmod (IntKind.wrap IntKind.i64 n) (9 : Int)) (Int.tmod
  (IntKind.wrap IntKind.i64 k) (13 : Int))) ∧ Int.tmod (IntKind.wrap IntKind.i64 j) (countF (Int.tmod (IntKind.wrap IntKind.i64 n) (9 : Int)) (Int.tmod (IntKind.wrap IntKind.i64 k) (13 : Int))) = Int.tmod (IntKind.wrap
  IntKind.i64 j) (countF (Int.tmod (IntKind.wrap IntKind.i64 n) (9 : Int)) (Int.tmod (IntKind.wrap IntKind.i64 k) (13 : Int))) ∧ (0 : Nat) = (0 : Nat) ∧ List.length (vecF (Int.tmod (IntKind.wrap IntKind.i64 n) (9 : Int))
  (Int.tmod (IntKind.wrap IntKind.i64 k) (13 : Int)) (Int.tmod (IntKind.wrap IntKind.i64 i) (countF (Int.tmod (IntKind.wrap IntKind.i64 n) (9 : Int)) (Int.tmod (IntKind.wrap IntKind.i64 k) (13 : Int))))) = List.length (vecF
  (Int.tmod (IntKind.wrap IntKind.i64 n) (9 : Int)) (Int.tmod (IntKind.wrap IntKind.i64 k) (13 : Int)) (Int.tmod (IntKind.wrap IntKind.i64 i) (countF (Int.tmod (IntKind.wrap IntKind.i64 n) (9 : Int)) (Int.tmod (IntKind.wrap
  IntKind.i64 k) (13 : Int))))) ∧ (0 : Nat) = (0 : Nat) ∧ List.length (vecF (Int.tmod (IntKind.wrap IntKind.i64 n) (9 : Int)) (Int.tmod (IntKind.wrap IntKind.i64 k) (13 : Int)) (Int.tmod (IntKind.wrap IntKind.i64 j) (countF
  (Int.tmod (IntKind.wrap IntKind.i64 n) (9 : Int)) (Int.tmod (IntKind.wrap IntKind.i64 k) (13 : Int))))) = List.length (vecF (Int.tmod (IntKind.wrap IntKind.i64 n) (9 : Int)) (Int.tmod (IntKind.wrap IntKind.i64 k) (13 :
  Int)) (Int.tmod (IntKind.wrap IntKind.i64 j) (countF (Int.tmod (IntKind.wrap IntKind.i64 n) (9 : Int)) (Int.tmod (IntKind.wrap IntKind.i64 k) (13 : Int))))) ∧ IntKind.wrap IntKind.i64 ((↑x : Int) + (1 : Int)) = (↑y : Int)
  ∧ vecF (Int.tmod (IntKind.wrap IntKind.i64 n) (9 : Int)) (Int.tmod (IntKind.wrap IntKind.i64 k) (13 : Int)) (Int.tmod (IntKind.wrap IntKind.i64 i) (countF (Int.tmod (IntKind.wrap IntKind.i64 n) (9 : Int)) (Int.tmod
  (IntKind.wrap IntKind.i64 k) (13 : Int)))) = vecF (Int.tmod (IntKind.wrap IntKind.i64 n) (9 : Int)) (Int.tmod (IntKind.wrap IntKind.i64 k) (13 : Int)) (Int.tmod (IntKind.wrap IntKind.i64 i) (countF (Int.tmod (IntKind.wrap
  IntKind.i64 n) (9 : Int)) (Int.tmod (IntKind.wrap IntKind.i64 k) (13 : Int)))) ∧ false = false ∧ vecF (Int.tmod (IntKind.wrap IntKind.i64 n) (9 : Int)) (Int.tmod (IntKind.wrap IntKind.i64 k) (13 : Int)) (Int.tmod
  (IntKind.wrap IntKind.i64 j) (countF (Int.tmod (IntKind.wrap IntKind.i64 n) (9 : Int)) (Int.tmod (IntKind.wrap IntKind.i64 k) (13 : Int)))) = vecF (Int.tmod (IntKind.wrap IntKind.i64 n) (9 : Int)) (Int.tmod (IntKind.wrap
  IntKind.i64 k) (13 : Int)) (Int.tmod (IntKind.wrap IntKind.i64 j) (countF (Int.tmod (IntKind.wrap IntKind.i64 n) (9 : Int)) (Int.tmod (IntKind.wrap IntKind.i64 k) (13 : Int)))) ∧ false = false) ∧ (y ≤ Int.toNat (Int.tmod
  (IntKind.wrap IntKind.i64 n) (9 : Int)) ∧ List.take y (vecF (Int.tmod (IntKind.wrap IntKind.i64 n) (9 : Int)) (Int.tmod (IntKind.wrap IntKind.i64 k) (13 : Int)) (Int.tmod (IntKind.wrap IntKind.i64 i) (countF (Int.tmod
  (IntKind.wrap IntKind.i64 n) (9 : Int)) (Int.tmod (IntKind.wrap IntKind.i64 k) (13 : Int))))) = List.take y (vecF (Int.tmod (IntKind.wrap IntKind.i64 n) (9 : Int)) (Int.tmod (IntKind.wrap IntKind.i64 k) (13 : Int))
  (Int.tmod (IntKind.wrap IntKind.i64 j) (countF (Int.tmod (IntKind.wrap IntKind.i64 n) (9 : Int)) (Int.tmod (IntKind.wrap IntKind.i64 k) (13 : Int)))))) ∧ Int.toNat (Int.tmod (IntKind.wrap IntKind.i64 n) (9 : Int)) - y <
  Int.toNat (Int.tmod (IntKind.wrap IntKind.i64 n) (9 : Int)) - x else decide (Int.tmod (IntKind.wrap IntKind.i64 i) (countF (Int.tmod (IntKind.wrap IntKind.i64 n) (9 : Int)) (Int.tmod (IntKind.wrap IntKind.i64 k) (13 :
  Int))) = Int.tmod (IntKind.wrap IntKind.i64 j) (countF (Int.tmod (IntKind.wrap IntKind.i64 n) (9 : Int)) (Int.tmod (IntKind.wrap IntKind.i64 k) (13 : Int)))) = true
theorem vc9 (n k i j : Int) : P9 n k i j = vcFun C9 (ann9 n k i j) Go.Proofs.Try.f9 [⟨.int .u8, n⟩, ⟨.int .u8, k⟩, ⟨.int .u32, i⟩, ⟨.int .u32, j⟩] [] (out9 n k i j) := by kernel_rfl

end Go.SL.A

namespace Go.SL.A
open Go Go.SL Go.SL.S

theorem rankF_rk {x : Int} (h : -100 ≤ x ∧ x ≤ 100) : rankF x = (rk x : Int) := by
  unfold rankF rk
  split
  · rw [w64 (n := 2 * x) (by omega) (by omega), w64 (by omega) (by omega)]; omega
  · rw [w64 (by omega) (by omega)]; omega

theorem sumSz_mem : ∀ {l : List Int} {x : Int}, x ∈ l → sz13 x ≤ sumSz l
  | y :: l, x, h => by
    have h1 := sumSz_le l
    have h2 := sz13_le y
    simp only [sumSz]
    rcases List.mem_cons.1 h with rfl | h
    · omega
    · have := sumSz_mem h; omega

theorem pure9 (n k i j : Int) (hw : (0 ≤ n ∧ n ≤ 255) ∧ (0 ≤ k ∧ k ≤ 255) ∧ (0 ≤ i ∧ i ≤ 4294967295) ∧ 0 ≤ j ∧ j ≤ 4294967295) : P9 n k i j := by
  obtain ⟨⟨a1, a2⟩, ⟨b1, b2⟩, ⟨c1, c2⟩, e1, e2⟩ := hw
  unfold P9
  rw [w64 (n := n) (by omega) (by omega), w64 (n := k) (by omega) (by omega), w64 (n := i) (by omega) (by omega), w64 (n := j) (by omega) (by omega)]
  have d1 := tdm n (k := 9) (by decide)
  have d2 := tdm k (k := 13) (by decide)
  generalize n.tmod 9 = M at *
  generalize k.tmod 13 = Q at *
  refine ⟨by decide, ?_⟩
  by_cases hz : countF M Q = 0
  · simp [hz]
  have hc := countF_fits M Q
  have d3 := tdm i (k := countF M Q) (by omega)
  have d4 := tdm j (k := countF M Q) (by omega)
  generalize i.tmod (countF M Q) = a at *
  generalize j.tmod (countF M Q) = b at *
  obtain ⟨v1, v2, v3, v4, v5, v6⟩ := vec_ok (n := M) (k := Q) (i := a) (by omega) (by omega) (by omega)
  obtain ⟨u1, u2, u3, u4, u5, u6⟩ := vec_ok (n := M) (k := Q) (i := b) (by omega) (by omega) (by omega)
  generalize vecF M Q a = v at *
  generalize vecF M Q b = w at *
  simp only [hz, decide_false, cond_false, eq_self, true_and, and_true, Int.toNat_natCast, Nat.zero_add, v2, u2, decide_true]
  refine ⟨⟨hz, hz⟩, 0, ⟨by simp, by omega, by simp⟩, fun x hx _ => ?_⟩
  obtain ⟨hx, ht⟩ := hx
  by_cases hxm : (x : Int) < M
  · have hxv : x < v.length := by omega
    have hxw : x < w.length := by omega
    simp only [hxm, decide_true]
    rintro _ rfl _ rfl
    simp only [cond_true, forall_const, and_self, true_and]
    by_cases he : v.getD x 0 = w.getD x 0
    · simp only [he, decide_true, Bool.not_true, cond_false]
      have wx : IntKind.i64.wrap ((x : Int) + 1) = ((x + 1 : Nat) : Int) := by rw [w64 (by omega) (by omega)]; simp
      refine ⟨⟨by simp, hxv, by simp, hxw⟩, x + 1, wx, ⟨by omega, ?_⟩, by omega⟩
      rw [take_snoc' 0 hxv, take_snoc' 0 hxw, ht, he]
    · simp only [he, decide_false, Bool.not_false, cond_true]
      have h1 := sumSz_mem (getD_mem (d := 0) hxv)
      have h2 := sumSz_mem (getD_mem (d := 0) hxw)
      have h3 := sz13_le12 (x := v.getD x 0) (by omega)
      have h4 := sz13_le12 (x := w.getD x 0) (by omega)
      have ho := num_order x (v := v) (w := w) (by omega) (by omega) (by omega) hxv ht he
      rw [v4, u4] at ho
      rw [rankF_rk (by omega), rankF_rk (by omega)]
      refine ⟨⟨by simp, hxv, by simp, hxw⟩, ⟨by simp, hxv, by simp, hxw⟩, ?_⟩
      by_cases hab : a < b
      · have h5 : ((rk (v.getD x 0) : Int) < (rk (w.getD x 0) : Int)) := by have := ho.1 hab; omega
        simp only [hab, h5, decide_true]; rfl
      · have : ¬ rk (v.getD x 0) < rk (w.getD x 0) := fun h => hab (ho.2 h)
        have h5 : ¬ ((rk (v.getD x 0) : Int) < (rk (w.getD x 0) : Int)) := by omega
        simp only [hab, h5, decide_false]; rfl
  · have : x = M.toNat := by omega
    subst this
    simp only [hxm, decide_false]
    rintro _ rfl _ rfl
    simp only [cond_false]
    rw [List.take_of_length_le (by omega), List.take_of_length_le (by omega)] at ht
    refine ⟨by simp, ?_⟩
    have : a = b := by rw [← v4, ← u4, ht]
    simp [this]

theorem hw9 {n k i j : Int} (hw : allP (List.flatMap (fun a : AV => a.t.wf a.x) [⟨.int .u8, n⟩, ⟨.int .u8, k⟩, ⟨.int .u32, i⟩, ⟨.int .u32, j⟩] ++ List.flatMap Blk.wf [])) : (0 ≤ n ∧ n ≤ 255) ∧ (0 ≤ k ∧ k ≤ 255) ∧ (0 ≤ i ∧ i ≤ 4294967295) ∧ 0 ≤ j ∧ j ≤ 4294967295 := by
  simp only [List.flatMap_cons, List.flatMap_nil, Ty.wf, List.append_nil, List.cons_append, List.nil_append, allP] at hw
  exact ⟨⟨hw.1, hw.2.1⟩, ⟨hw.2.2.1, hw.2.2.2.1⟩, ⟨hw.2.2.2.2.1, hw.2.2.2.2.2.1⟩, hw.2.2.2.2.2.2.1, hw.2.2.2.2.2.2.2⟩

end Go.SL.A

/- Functions do what they are held to do. -/
namespace Go.SL.A
open Go Go.SL Go.SL.S
theorem snd9 : Sound Go.Proofs.Try.prog G9 := snd46.add ⟨_, Go.Proofs.Try.func9, by kernel_rfl, by kernel_rfl⟩ (by
  intro args ins out h hp
  unfold sp9 at h
  split at h
  · rename_i n k i j
    cases h
    exact vcFun_ok (C := C9) good snd46 Meth.none mix Go.Proofs.Try.func9 (ann9 n k i j) (fun hw => by rw [← vc9 n k i j]; exact pure9 n k i j (hw9 hw))
  · cases h)

end Go.SL.A

/- PvqOrder: the law returns true, whatever its arguments; each argument reads afterwards as before. No condition. -/
namespace Go.Proofs.Ythhfccnhkadkcaa
open Go Go.SL Go.SL.S Go.ChangeShapes Go.WideShapes Go.ChangeAt Go.WideMaps Go.WideElems Go.RowKit
set_option maxRecDepth 100000

theorem parsT : ((Go.Proofs.Try.f9.params.toList).all fun t => Nat.blt t Go.Proofs.Try.prog.types.size) = true := by kernel_rfl
theorem parsL : Go.Proofs.Try.f9.params.toList = [5, 5, 42, 42] := by kernel_rfl
theorem law_pure : ∀ avs bls, argsOk Go.SL.A.D Go.Proofs.Try.f9.params.toList 0 avs bls → VCall Go.Proofs.Try.prog 9 avs bls ⟨[], .v .bool true, [], []⟩ := by
  rw [parsL]
  intro avs bls h
  replace h : ∃ (t : Ty) (x : t.I) (avs' : List AV), Go.SL.A.D.ty 5 = some t ∧ avs = ⟨t, x⟩ :: avs' ∧ argsOk Go.SL.A.D [5, 42, 42] 0 avs' bls := h
  obtain ⟨t, x0, avs, ht, rfl, h⟩ := h
  obtain rfl : .int .u8 = t := Option.some.inj ((show (some (.int .u8) : Option Ty) = Go.SL.A.D.ty 5 by kernel_rfl).trans ht)
  replace h : ∃ (t : Ty) (x : t.I) (avs' : List AV), Go.SL.A.D.ty 5 = some t ∧ avs = ⟨t, x⟩ :: avs' ∧ argsOk Go.SL.A.D [42, 42] 0 avs' bls := h
  obtain ⟨t, x1, avs, ht, rfl, h⟩ := h
  obtain rfl : .int .u8 = t := Option.some.inj ((show (some (.int .u8) : Option Ty) = Go.SL.A.D.ty 5 by kernel_rfl).trans ht)
  replace h : ∃ (t : Ty) (x : t.I) (avs' : List AV), Go.SL.A.D.ty 42 = some t ∧ avs = ⟨t, x⟩ :: avs' ∧ argsOk Go.SL.A.D [42] 0 avs' bls := h
  obtain ⟨t, x2, avs, ht, rfl, h⟩ := h
  obtain rfl : .int .u32 = t := Option.some.inj ((show (some (.int .u32) : Option Ty) = Go.SL.A.D.ty 42 by kernel_rfl).trans ht)
  replace h : ∃ (t : Ty) (x : t.I) (avs' : List AV), Go.SL.A.D.ty 42 = some t ∧ avs = ⟨t, x⟩ :: avs' ∧ argsOk Go.SL.A.D [] 0 avs' bls := h
  obtain ⟨t, x3, avs, ht, rfl, h⟩ := h
  obtain rfl : .int .u32 = t := Option.some.inj ((show (some (.int .u32) : Option Ty) = Go.SL.A.D.ty 42 by kernel_rfl).trans ht)
  obtain ⟨rfl, rfl⟩ : avs = [] ∧ bls = [] := h
  have q := (Go.SL.A.snd9 9 Go.SL.A.sp9 rfl).2 [⟨.int .u8, x0⟩, ⟨.int .u8, x1⟩, ⟨.int .u32, x2⟩, ⟨.int .u32, x3⟩] [] _ rfl (trivial)
  exact q

theorem lifted (os : Os) (started : os.Started) (H : Type) (enc : TypeId × Value → H) :
    ReturnsInHanded {} Go.Proofs.Try.checked os 9 .any (Rows.pvqOrderSpec.pre6 enc Go.Proofs.Try.prog Go.Proofs.Try.f9 Rows.pvqOrderRow.domain false) (Rows.pvqOrderSpec.post enc Go.Proofs.Try.prog Go.Proofs.Try.f9 false true false false) := by
  refine returnsInHanded_of_change (C := Go.Proofs.Try.checked) Seat.own started (by kernel_rfl) Go.Proofs.Try.func9
    (ChangeSpec.witness6 (enc := enc) (C := Go.Proofs.Try.checked) false ⟨#[], #[.int .u8 0, .int .u8 0, .int .u32 0, .int .u32 0], []⟩ 8 (by kernel_rfl) (by kernel_rfl) (by kernel_rfl) (by kernel_rfl)) ?_
  intro W base args ds gs before hval hW _ _
  refine law_calls (D := Go.SL.A.D) Go.SL.A.good Seat.kids Seat.slicesFull (fun t ht => Nat.le_of_ble_eq_true (List.all_eq_true.1 parsT t ht)) (by kernel_rfl) (show Go.Proofs.Try.f9.resultTypes = #[4] by kernel_rfl) Go.Proofs.Try.underlying4 rfl (fun ds h => ?_) law_pure hval hW
  have h : ds.length = 4 := h
  match ds, h with
  | [_, _, _, _], _ => rfl

theorem joined : joinedFacts Go.Proofs.Try.prog 9 Go.Proofs.Try.f9 Rows.pvqOrderSpec Rows.pvqOrderRow = true := by
  unfold joinedFacts
  exact (andT (andT (andT (andT (andT (andT (andT (andT (andT (andT (andT (andT (andT (andT (andT (andT (andT (andT (andT (andT (andT (andT (andT (andT (andT (andT (andT (andT (andT (andT (andT (by as_aux_lemma => kernel_rfl) Seat.laidOut) Seat.mapsRowed) (by as_aux_lemma => kernel_rfl)) (by as_aux_lemma => kernel_rfl)) (by as_aux_lemma => kernel_rfl)) Seat.stops) (by as_aux_lemma => kernel_rfl)) Seat.knobs) (by as_aux_lemma => kernel_rfl)) (by as_aux_lemma => kernel_rfl)) (by as_aux_lemma => kernel_rfl)) (by as_aux_lemma => kernel_rfl)) (by as_aux_lemma => kernel_rfl)) (by as_aux_lemma => kernel_rfl)) (by as_aux_lemma => kernel_rfl)) (by as_aux_lemma => kernel_rfl)) (by as_aux_lemma => kernel_rfl)) (by as_aux_lemma => kernel_rfl)) (by as_aux_lemma => kernel_rfl)) (by as_aux_lemma => kernel_rfl)) (by as_aux_lemma => kernel_rfl)) (by as_aux_lemma => kernel_rfl)) (by as_aux_lemma => kernel_rfl)) Seat.heard) Seat.mayEnter) (by rw [Seat.lifts]; rfl)) (by rw [Seat.made]; rfl)) (by as_aux_lemma => kernel_rfl)) (by as_aux_lemma => kernel_rfl)) (by as_aux_lemma => kernel_rfl)) (by as_aux_lemma => kernel_rfl))

theorem pvqOrder_holds : Rows.PvqOrderSaid :=
  OpenClaim.holds_of_wide 9 Go.Proofs.Try.f9 rfl rfl rfl rfl rfl rfl rfl ⟨rfl, rfl, rfl, rfl, rfl⟩ rfl rfl rfl rfl rfl (by kernel_rfl) Go.Proofs.Try.func9 joined
    (of_decide_eq_true (by kernel_rfl)) (by unfold Func.isWrapper; first | (rw [if_pos (by decide +kernel)]; kernel_rfl) | (rw [if_neg (by decide +kernel)]; exact ⟨rfl, rfl⟩))
    (fun os started H enc _ => lifted os started H enc)

#print axioms pvqOrder_holds
end Go.Proofs.Ythhfccnhkadkcaa
