/- PvqBack returns true, whatever its arguments, which read afterwards as before: no condition. -/
import Derived.Test.YthhfccnhkadkcaaRows
import Derived.Test.YthhfccnhkadkcaaPvq
import Derived.Test.YthhfccnhkadkcaaPvqB
import Derived.Test.YthhfccnhkadkcaaKb
import Derived.Test.YthhfccnhkadkcaaT

/- Functions and what they are held to do: bound to their code. -/
namespace Go.SL.A
open Go Go.SL Go.SL.S
set_option maxRecDepth 100000
noncomputable def C8 : Ctx := ⟨Go.Proofs.Try.prog, D, G46, (fun _ _ => none), fun _ => []⟩
def ann8 (m : Nat) (y : List Int) (n k i : Int) : Nat → St → Option Ann := fun id S => some ⟨Nat, [0, 1, 2, 3, 12], [0, 1], fun j => [(14, .v (.int .i64) (j : Int))], fun _ => [], fun j => j ≤ y.length, fun j => y.length - j⟩
def out8 (m : Nat) (y : List Int) (n k i : Int) : COut := ⟨[m = y.length], .v .bool true, [], []⟩
def sp8 : Spec := fun args ins => match args, ins with
  | [⟨.ref .slice, .slice 0 (.int .i64) [] 0 m⟩, ⟨.int .u8, n⟩, ⟨.int .u8, k⟩, ⟨.int .u32, i⟩], [⟨true, false, .int .i64, y⟩] => some (out8 m y n k i)
  | _, _ => none
def G8 := addG G46 8 sp8
def P8 (m : Nat) (y : List Int) (n k i : Int) : Prop :=
  ∀ (b : Bool), false = b → (((!b) = true → (!b) = true) ∧ ((!b) = true → (!b) = true) ∧ (b = false → (!b) = true)) ∧ bif bif b then true else decide ((40 : Int) < (↑m : Int)) then true = true ∧ y = y ∧ true = true else m =
  List.length y ∧ m = List.length y ∧ bif decide (Prod.snd (indexF y) = (0 : Int)) then ∀ (b : Bool), (!decide (vecE (↑m : Int) (pulsesF y) (Prod.fst (indexF y)) = (0 : Int))) = b → ∀ (b_1 : Bool), (bif b then true else
  !decide ((↑(List.length (vecF (↑m : Int) (pulsesF y) (Prod.fst (indexF y)))) : Int) = (↑m : Int))) = b_1 → bif bif b_1 then true else decide (Prod.fst (indexF y) < (0 : Int)) then (((!b) = true → (!b) = true) ∧ ((!b) =
  true → (!b) = true) ∧ ((!b) = true → (!b) = true ∧ (!b) = true) ∧ (b = false → (!b) = true) ∧ ((!b_1) = true → (!b_1) = true) ∧ (b_1 = false → (!b_1) = true) ∧ (true = false → false = true)) ∧ false = true ∧ y = y ∧ true
  = true else (((!b) = true → (!b) = true) ∧ ((!b) = true → (!b) = true) ∧ ((!b) = true → (!b) = true ∧ (!b) = true) ∧ (b = false → (!b) = true) ∧ ((!b_1) = true → (!b_1) = true) ∧ (b_1 = false → (!b_1) = true)) ∧ bif
  decide (countF (↑m : Int) (pulsesF y) ≤ Prod.fst (indexF y)) then false = true ∧ y = y ∧ true = true else ∃ (x : Nat), (((0 : Nat) = (0 : Nat) ∧ m = m ∧ n = n ∧ k = k ∧ i = i ∧ (0 : Nat) = (0 : Nat) ∧ List.length (vecF
  (↑m : Int) (pulsesF y) (Prod.fst (indexF y))) = List.length (vecF (↑m : Int) (pulsesF y) (Prod.fst (indexF y))) ∧ (0 : Int) = (↑x : Int) ∧ y = y ∧ true = true ∧ vecF (↑m : Int) (pulsesF y) (Prod.fst (indexF y)) = vecF (↑m
  : Int) (pulsesF y) (Prod.fst (indexF y)) ∧ false = false) ∧ x ≤ List.length y) ∧ ∀ (x : Nat), x ≤ List.length y → IntKind.min IntKind.i64 ≤ (↑x : Int) ∧ (↑x : Int) ≤ IntKind.max IntKind.i64 → bif decide ((↑x : Int) < (↑m
  : Int)) then (((0 : Int) ≤ (↑x : Int) ∧ (↑x : Int) < (↑(List.length (vecF (↑m : Int) (pulsesF y) (Prod.fst (indexF y)))) : Int)) ∧ (0 : Nat) + Int.toNat (↑x : Int) < List.length (vecF (↑m : Int) (pulsesF y) (Prod.fst
  (indexF y))) ∧ ((0 : Int) ≤ (↑x : Int) ∧ (↑x : Int) < (↑m : Int)) ∧ (0 : Nat) + Int.toNat (↑x : Int) < List.length y) ∧ bif !decide (List.getD (vecF (↑m : Int) (pulsesF y) (Prod.fst (indexF y))) ((0 : Nat) + Int.toNat (↑x
  : Int)) (0 : Int) = List.getD y ((0 : Nat) + Int.toNat (↑x : Int)) (0 : Int)) then false = true ∧ y = y ∧ true = true else ∃ (y_1 : Nat), ((0 : Nat) = (0 : Nat) ∧ m = m ∧ n = n ∧ k = k ∧ i = i ∧ (0 : Nat) = (0 : Nat) ∧
  List.length (vecF (↑m : Int) (pulsesF y) (Prod.fst (indexF y))) = List.length (vecF (↑m : Int) (pulsesF y) (Prod.fst (indexF y))) ∧ IntKind.wrap IntKind.i64 ((↑x : Int) + (1 : Int)) = (↑y_1 : Int) ∧ y = y ∧ true = true ∧
  vecF (↑m : Int) (pulsesF y) (Prod.fst (indexF y)) = vecF (↑m : Int) (pulsesF y) (Prod.fst (indexF y)) ∧ false = false) ∧ y_1 ≤ List.length y ∧ List.length y - y_1 < List.length y - x else ((9 : Int) ≠ (0 : Int) ∧ (13 :
  Int) ≠ (0 : Int)) ∧ bif decide (countF (Int.tmod (IntKind.wrap IntKind.i64 n) (9 : Int)) (Int.tmod (IntKind.wrap IntKind.i64 k) (13 : Int)) = (0 : Int)) then ∀ (b : Bool), decide (Int.tmod (IntKind.wrap IntKind.i64 n) (9
  : Int) = (0 : Int)) = b → ((b = true → b = true) ∧ (b = true → b = true)) ∧ (bif b then decide ((0 : Int) < Int.tmod (IntKind.wrap IntKind.i64 k) (13 : Int)) else false) = true ∧ y = y ∧ true = true else countF (Int.tmod
  (IntKind.wrap IntKind.i64 n) (9 : Int)) (Int.tmod (IntKind.wrap IntKind.i64 k) (13 : Int)) ≠ (0 : Int) ∧ List.length (vecF (Int.tmod (IntKind.wrap IntKind.i64 n) (9 : Int)) (Int.tmod (IntKind.wrap IntKind.i64 k) (13 :
  Int)) (Int.tmod (IntKind.wrap IntKind.i64 i) (countF (Int.tmod (IntKind.wrap IntKind.i64 n) (9 : Int)) (Int.tmod (IntKind.wrap IntKind.i64 k) (13 : Int))))) = List.length (vecF (Int.tmod (IntKind.wrap IntKind.i64 n) (9 :
  Int)) (Int.tmod (IntKind.wrap IntKind.i64 k) (13 : Int)) (Int.tmod (IntKind.wrap IntKind.i64 i) (countF (Int.tmod (IntKind.wrap IntKind.i64 n) (9 : Int)) (Int.tmod (IntKind.wrap IntKind.i64 k) (13 : Int))))) ∧ ∀ (b :
  Bool), decide (vecE (Int.tmod (IntKind.wrap IntKind.i64 n) (9 : Int)) (Int.tmod (IntKind.wrap IntKind.i64 k) (13 : Int)) (Int.tmod (IntKind.wrap IntKind.i64 i) (countF (Int.tmod (IntKind.wrap IntKind.i64 n) (9 : Int))
  (Int.tmod (IntKind.wrap IntKind.i64 k) (13 : Int)))) = (0 : Int)) = b → ∀ (b_2 : Bool), (bif b then decide (Prod.snd (indexF (vecF (Int.tmod (IntKind.wrap IntKind.i64 n) (9 : Int)) (Int.tmod (IntKind.wrap IntKind.i64 k)
  (13 : Int)) (Int.tmod (IntKind.wrap IntKind.i64 i) (countF (Int.tmod (IntKind.wrap IntKind.i64 n) (9 : Int)) (Int.tmod (IntKind.wrap IntKind.i64 k) (13 : Int)))))) = (0 : Int)) else false) = b_2 → bif bif b_2 then decide
  (Prod.fst (indexF (vecF (Int.tmod (IntKind.wrap IntKind.i64 n) (9 : Int)) (Int.tmod (IntKind.wrap IntKind.i64 k) (13 : Int)) (Int.tmod (IntKind.wrap IntKind.i64 i) (countF (Int.tmod (IntKind.wrap IntKind.i64 n) (9 : Int))
  (Int.tmod (IntKind.wrap IntKind.i64 k) (13 : Int)))))) = Int.tmod (IntKind.wrap IntKind.i64 i) (countF (Int.tmod (IntKind.wrap IntKind.i64 n) (9 : Int)) (Int.tmod (IntKind.wrap IntKind.i64 k) (13 : Int)))) else false then
  ∀ (b_3 : Bool), decide (pulsesF (vecF (Int.tmod (IntKind.wrap IntKind.i64 n) (9 : Int)) (Int.tmod (IntKind.wrap IntKind.i64 k) (13 : Int)) (Int.tmod (IntKind.wrap IntKind.i64 i) (countF (Int.tmod (IntKind.wrap IntKind.i64
  n) (9 : Int)) (Int.tmod (IntKind.wrap IntKind.i64 k) (13 : Int))))) = Int.tmod (IntKind.wrap IntKind.i64 k) (13 : Int)) = b_3 → ((b = true → b = true) ∧ (b = true → b = true) ∧ (b_2 = true → b_2 = true ∧ b_2 = true) ∧
  (b_2 = true → b_2 = true) ∧ List.length (vecF (Int.tmod (IntKind.wrap IntKind.i64 n) (9 : Int)) (Int.tmod (IntKind.wrap IntKind.i64 k) (13 : Int)) (Int.tmod (IntKind.wrap IntKind.i64 i) (countF (Int.tmod (IntKind.wrap
  IntKind.i64 n) (9 : Int)) (Int.tmod (IntKind.wrap IntKind.i64 k) (13 : Int))))) = List.length (vecF (Int.tmod (IntKind.wrap IntKind.i64 n) (9 : Int)) (Int.tmod (IntKind.wrap IntKind.i64 k) (13 : Int)) (Int.tmod
  (IntKind.wrap IntKind.i64 i) (countF (Int.tmod (IntKind.wrap IntKind.i64 n) (9 : Int)) (Int.tmod (IntKind.wrap IntKind.i64 k) (13 : Int))))) ∧ (b_3 = true → b_3 = true) ∧ (b_3 = true → b_3 = true ∧ b_3 = true) ∧ (b_3 =
  true → b_3 = true)) ∧ (bif b_3 then decide ((↑(List.length (vecF (Int.tmod (IntKind.wrap IntKind.i64 n) (9 : Int)) (Int.tmod (IntKind.wrap IntKind.i64 k) (13 : Int)) (Int.tmod (IntKind.wrap IntKind.i64 i) (countF
  (Int.tmod (IntKind.wrap IntKind.i64 n) (9 : Int)) (Int.tmod (IntKind.wrap IntKind.i64 k) (13 : Int)))))) : Int) = Int.tmod (IntKind.wrap IntKind.i64 n) (9 : Int)) else false) = true ∧ y = y ∧ true = true else ∀ (b_3 :
  Bool), false = b_3 → ((b = true → b = true) ∧ (b = true → b = true) ∧ (b_2 = true → b_2 = true ∧ b_2 = true) ∧ (b_2 = true → b_2 = true) ∧ (false = true → false = true) ∧ (b_3 = true → b_3 = true) ∧ (b_3 = true → b_3 =
  true ∧ b_3 = true) ∧ (b_3 = true → b_3 = true)) ∧ (bif b_3 then decide ((↑(List.length (vecF (Int.tmod (IntKind.wrap IntKind.i64 n) (9 : Int)) (Int.tmod (IntKind.wrap IntKind.i64 k) (13 : Int)) (Int.tmod (IntKind.wrap
  IntKind.i64 i) (countF (Int.tmod (IntKind.wrap IntKind.i64 n) (9 : Int)) (Int.tmod (IntKind.wrap IntKind.i64 k) (13 : Int)))))) : Int) = Int.tmod (IntKind.wrap IntKind.i64 n) (9 : Int)) else false) = true ∧ y = y ∧ true =
  true else ∀ (b : Bool), decide (pulsesF y ≤ (12 : Int)) = b → (((!b) = true → (!b) = true) ∧ (b = false → (!b) = true)) ∧ bif bif b then true else !decide (Prod.fst (indexF y) = (0 : Int)) then false = true ∧ y = y ∧ true
  = true else ((9 : Int) ≠ (0 : Int) ∧ (13 : Int) ≠ (0 : Int)) ∧ bif decide (countF (Int.tmod (IntKind.wrap IntKind.i64 n) (9 : Int)) (Int.tmod (IntKind.wrap IntKind.i64 k) (13 : Int)) = (0 : Int)) then ∀ (b : Bool), decide
  (Int.tmod (IntKind.wrap IntKind.i64 n) (9 : Int) = (0 : Int)) = b → ((b = true → b = true) ∧ (b = true → b = true)) ∧ (bif b then decide ((0 : Int) < Int.tmod (IntKind.wrap IntKind.i64 k) (13 : Int)) else false) = true ∧
  y = y ∧ true = true else countF (Int.tmod (IntKind.wrap IntKind.i64 n) (9 : Int)) (Int.tmod (IntKind.wrap IntKind.i64 k) (13 : Int)) ≠ (0 : Int) ∧ List.length (vecF (Int.tmod (IntKind.wrap IntKind.i64 n) (9 : Int))
  (Int.tmod (IntKind.wrap IntKind.i64 k) (13 : Int)) (Int.tmod (IntKind.wrap IntKind.i64 i) (countF (Int.tmod (IntKind.wrap IntKind.i64 n) (9 : Int)) (Int.tmod (IntKind.wrap IntKind.i64 k) (13 : Int))))) = List.length (vecF
  (Int.tmod (IntKind.wrap IntKind.i64 n) (9 : Int)) (Int.tmod (IntKind.wrap IntKind.i64 k) (13 : Int)) (Int.tmod (IntKind.wrap IntKind.i64 i) (countF (Int.tmod (IntKind.wrap IntKind.i64 n) (9 : Int)) (Int.tmod (IntKind.wrap
  IntKind.i64 k) (13 : Int))))) ∧ ∀ (b : Bool), decide (vecE (Int.tmod (IntKind.wrap IntKind.i64 n) (9 : Int)) (Int.tmod (IntKind.wrap IntKind.i64 k) (13 : Int)) (Int.tmod (IntKind.wrap IntKind.i64 i) (countF (Int.tmod
  (IntKind.wrap IntKind.i64 n) (9 : Int)) (Int.tmod (IntKind.wrap IntKind.i64 k) (13 : Int)))) = (0 : Int)) = b → ∀ (b_1 : Bool), (bif b then decide (Prod.snd (indexF (vecF (Int.tmod (IntKind.wrap IntKind.i64 n) (9 : Int))
  (Int.tmod (IntKind.wrap IntKind.i64 k) (13 : Int)) (Int.tmod (IntKind.wrap IntKind.i64 i) (countF (Int.tmod (IntKind.wrap IntKind.i64 n) (9 : Int)) (Int.tmod (IntKind.wrap IntKind.i64 k) (13 : Int)))))) = (0 : Int)) else
  false) = b_1 → bif bif b_1 then decide (Prod.fst (indexF (vecF (Int.tmod (IntKind.wrap IntKind.i64 n) (9 : Int)) (Int.tmod (IntKind.wrap IntKind.i64 k) (13 : Int)) (Int.tmod (IntKind.wrap IntKind.i64 i) (countF (Int.tmod
  (IntKind.wrap IntKind.i64 n) (9 : Int)) (Int.tmod (IntKind.wrap IntKind.i64 k) (13 : Int)))))) = Int.tmod (IntKind.wrap IntKind.i64 i) (countF (Int.tmod (IntKind.wrap IntKind.i64 n) (9 : Int)) (Int.tmod (IntKind.wrap
  IntKind.i64 k) (13 : Int)))) else false then ∀ (b_2 : Bool), decide (pulsesF (vecF (Int.tmod (IntKind.wrap IntKind.i64 n) (9 : Int)) (Int.tmod (IntKind.wrap IntKind.i64 k) (13 : Int)) (Int.tmod (IntKind.wrap IntKind.i64
  i) (countF (Int.tmod (IntKind.wrap IntKind.i64 n) (9 : Int)) (Int.tmod (IntKind.wrap IntKind.i64 k) (13 : Int))))) = Int.tmod (IntKind.wrap IntKind.i64 k) (13 : Int)) = b_2 → ((b = true → b = true) ∧ (b = true → b = true)
  ∧ (b_1 = true → b_1 = true ∧ b_1 = true) ∧ (b_1 = true → b_1 = true) ∧ List.length (vecF (Int.tmod (IntKind.wrap IntKind.i64 n) (9 : Int)) (Int.tmod (IntKind.wrap IntKind.i64 k) (13 : Int)) (Int.tmod (IntKind.wrap
  IntKind.i64 i) (countF (Int.tmod (IntKind.wrap IntKind.i64 n) (9 : Int)) (Int.tmod (IntKind.wrap IntKind.i64 k) (13 : Int))))) = List.length (vecF (Int.tmod (IntKind.wrap IntKind.i64 n) (9 : Int)) (Int.tmod (IntKind.wrap
  IntKind.i64 k) (13 : Int)) (Int.tmod (IntKind.wrap IntKind.i64 i) (countF (Int.tmod (IntKind.wrap IntKind.i64 n) (9 : Int)) (Int.tmod (IntKind.wrap IntKind.i64 k) (13 : Int))))) ∧ (b_2 = true → b_2 = true) ∧ (b_2 = true →
  b_2 = true ∧ b_2 = true) ∧ (b_2 = true → b_2 = true)) ∧ (bif b_2 then decide ((↑(List.length (vecF (Int.tmod (IntKind.wrap IntKind.i64 n) (9 : Int)) (Int.tmod (IntKind.wrap IntKind.i64 k) (13 : Int)) (Int.tmod
  (IntKind.wrap IntKind.i64 i) (countF (Int.tmod (IntKind.wrap IntKind.i64 n) (9 : Int)) (Int.tmod (IntKind.wrap IntKind.i64 k) (13 : Int)))))) : Int) = Int.tmod (IntKind.wrap IntKind.i64 n) (9 : Int)) else false) = true ∧
  y = y ∧ true = true else ∀ (b_2 : Bool), false = b_2 → ((b = true → b = true) ∧ (b = true → b = true) ∧ (b_1 = true → b_1 = true ∧ b_1 = true) ∧ (b_1 = true → b_1 = true) ∧ (false = true → false = true) ∧ (b_2 = true →
  b_2 = true) ∧ (b_2 = true → b_2 = true ∧ b_2 = true) ∧ (b_2 = true → b_2 = true)) ∧ (bif b_2 then decide ((↑(List.length (vecF (Int.tmod (IntKind.wrap IntKind.i64 n) (9 : Int)) (Int.tmod (IntKind.wrap IntKind.i64 k) (13 :
  Int)) (Int.tmod (IntKind.wrap IntKind.i64 i) (countF (Int.tmod (IntKind.wrap IntKind.i64 n) (9 : Int)) (Int.tmod (IntKind.wrap IntKind.i64 k) (13 : Int)))))) : Int) = Int.tmod (IntKind.wrap IntKind.i64 n) (9 : Int)) else
  false) = true ∧ y = y ∧ true = true
theorem vc8 (m : Nat) (y : List Int) (n k i : Int) : P8 m y n k i = vcFun C8 (ann8 m y n k i) Go.Proofs.Try.f8 [⟨.ref .slice, .slice 0 (.int .i64) [] 0 m⟩, ⟨.int .u8, n⟩, ⟨.int .u8, k⟩, ⟨.int .u32, i⟩] [⟨true, false, .int .i64, y⟩] (out8 m y n k i) := by kernel_rfl

end Go.SL.A

namespace Go.SL.A
open Go Go.SL Go.SL.S

theorem pure8 (m : Nat) (y : List Int) (n k i : Int) (hm : m = y.length) (hw : (0 ≤ n ∧ n ≤ 255) ∧ (0 ≤ k ∧ k ≤ 255) ∧ 0 ≤ i ∧ i ≤ 4294967295) : P8 m y n k i := by
  subst hm
  obtain ⟨⟨a1, a2⟩, ⟨b1, b2⟩, c1, c2⟩ := hw
  unfold P8
  rintro _ rfl
  refine ⟨by simp, ?_⟩
  by_cases h40 : (40 : Int) < (y.length : Int)
  · simp [h40]
  rw [w64 (n := n) (by omega) (by omega), w64 (n := k) (by omega) (by omega), w64 (n := i) (by omega) (by omega)]
  have d1 := tdm n (k := 9) (by decide)
  have d2 := tdm k (k := 13) (by decide)
  generalize n.tmod 9 = M at *
  generalize k.tmod 13 = Q at *
  simp only [h40, decide_false, cond_false, eq_self, true_and, and_true, Int.toNat_natCast, Nat.zero_add]
  have hc := countF_fits M Q
  by_cases hE : (indexF y).2 = 0
  case' pos =>
    obtain ⟨g1, g2, g3, g4, g5, g6, g7⟩ := index_ok hE
    have h0 := sumSz_le y
    obtain ⟨v1, v2, v3, v4, v5, v6⟩ := vec_ok (n := (y.length : Int)) (k := sumSz y) (i := numF y) (by omega) g5 g6
    have h1 : ¬ numF y < 0 := by omega
    have h2 : ¬ countF (y.length : Int) (sumSz y) ≤ numF y := by omega
    simp only [g3, g4, g7, v1, h1, h2, decide_true, decide_false, cond_true, cond_false, Bool.not_true]
    rintro _ rfl _ rfl
    simp only [cond_false, Bool.not_false, forall_const, and_self, true_and]
    refine ⟨0, ⟨by simp, by omega⟩, fun j hj _ => ?_⟩
    by_cases hjl : (j : Int) < (y.length : Int)
    case' pos =>
      have wj : IntKind.i64.wrap ((j : Int) + 1) = ((j + 1 : Nat) : Int) := by rw [w64 (by omega) (by omega)]; simp
      simp only [hjl, decide_true, cond_true, wj]
      exact ⟨by simp; omega, j + 1, rfl, by omega, by omega⟩
    simp only [hjl, decide_false, cond_false]
  case' neg =>
    obtain ⟨g1, g2⟩ := index_bad hE
    have h1 : ¬ pulsesF y ≤ 12 := by omega
    simp only [hE, g2, h1, decide_false, cond_false, decide_true, Bool.not_true]
    rintro _ rfl
    simp only [cond_false, Bool.not_false, forall_const, and_self, true_and]
  all_goals
    refine ⟨by decide, ?_⟩
    by_cases hz : countF M Q = 0
    · have := countF_zero (by omega) hz
      simp only [hz, decide_true, cond_true]
      rintro _ rfl
      simp [this.1, this.2]
    · have d3 := tdm i (k := countF M Q) (by omega)
      generalize i.tmod (countF M Q) = at0 at *
      obtain ⟨u1, u2, u3, u4, u5, u6⟩ := vec_ok (n := M) (k := Q) (i := at0) (by omega) (by omega) (by omega)
      simp only [hz, decide_false, cond_false, u1, u2, u5, u6, decide_true]
      refine ⟨hz, ?_⟩
      rintro _ rfl _ rfl
      simp only [cond_true]
      rintro _ rfl
      simp

theorem hw8 {m : Nat} {y : List Int} {n k i : Int} (hw : allP (List.flatMap (fun a : AV => a.t.wf a.x) [⟨.ref .slice, .slice 0 (.int .i64) [] 0 m⟩, ⟨.int .u8, n⟩, ⟨.int .u8, k⟩, ⟨.int .u32, i⟩] ++ List.flatMap Blk.wf [⟨true, false, .int .i64, y⟩])) : (0 ≤ n ∧ n ≤ 255) ∧ (0 ≤ k ∧ k ≤ 255) ∧ 0 ≤ i ∧ i ≤ 4294967295 := by
  simp only [List.flatMap_cons, List.flatMap_nil, Ty.wf, Blk.wf, List.append_nil, List.cons_append, List.nil_append, allP] at hw
  exact ⟨⟨hw.1, hw.2.1⟩, ⟨hw.2.2.1, hw.2.2.2.1⟩, hw.2.2.2.2.1, hw.2.2.2.2.2.1⟩

end Go.SL.A

/- Functions do what they are held to do. -/
namespace Go.SL.A
open Go Go.SL Go.SL.S
theorem snd8 : Sound Go.Proofs.Try.prog G8 := snd46.add ⟨_, Go.Proofs.Try.func8, by kernel_rfl, by kernel_rfl⟩ (by
  intro args ins out h hp
  unfold sp8 at h
  split at h
  · rename_i m n k i y
    cases h
    exact vcFun_ok (C := C8) good snd46 Meth.none mix Go.Proofs.Try.func8 (ann8 m y n k i) (fun hw => by rw [← vc8 m y n k i]; exact pure8 m y n k i hp (hw8 hw))
  · cases h)

end Go.SL.A

/- PvqBack: the law returns true, whatever its arguments; each argument reads afterwards as before. No condition. -/
namespace Go.Proofs.Ythhfccnhkadkcaa
open Go Go.SL Go.SL.S Go.ChangeShapes Go.WideShapes Go.ChangeAt Go.WideMaps Go.WideElems Go.RowKit
set_option maxRecDepth 100000

theorem parsT : ((Go.Proofs.Try.f8.params.toList).all fun t => Nat.blt t Go.Proofs.Try.prog.types.size) = true := by kernel_rfl
theorem parsL : Go.Proofs.Try.f8.params.toList = [33, 5, 5, 42] := by kernel_rfl
theorem law_pure : ∀ avs bls, argsOk Go.SL.A.D Go.Proofs.Try.f8.params.toList 0 avs bls → VCall Go.Proofs.Try.prog 8 avs bls ⟨[], .v .bool true, [], []⟩ := by
  rw [parsL]
  intro avs bls h
  replace h : ∃ (t : Ty) (xs : List t.I) (avs' : List AV) (bls' : List Blk), Go.SL.A.D.ty 3 = some t ∧ avs = ⟨.ref .slice, .slice 0 t [] 0 xs.length⟩ :: avs' ∧ bls = ⟨true, false, t, xs⟩ :: bls' ∧ argsOk Go.SL.A.D [5, 5, 42] 1 avs' bls' := h
  obtain ⟨t, x0, avs, bls, ht, rfl, rfl, h⟩ := h
  obtain rfl : .int .i64 = t := Option.some.inj ((show (some (.int .i64) : Option Ty) = Go.SL.A.D.ty 3 by kernel_rfl).trans ht)
  replace h : ∃ (t : Ty) (x : t.I) (avs' : List AV), Go.SL.A.D.ty 5 = some t ∧ avs = ⟨t, x⟩ :: avs' ∧ argsOk Go.SL.A.D [5, 42] 1 avs' bls := h
  obtain ⟨t, x1, avs, ht, rfl, h⟩ := h
  obtain rfl : .int .u8 = t := Option.some.inj ((show (some (.int .u8) : Option Ty) = Go.SL.A.D.ty 5 by kernel_rfl).trans ht)
  replace h : ∃ (t : Ty) (x : t.I) (avs' : List AV), Go.SL.A.D.ty 5 = some t ∧ avs = ⟨t, x⟩ :: avs' ∧ argsOk Go.SL.A.D [42] 1 avs' bls := h
  obtain ⟨t, x2, avs, ht, rfl, h⟩ := h
  obtain rfl : .int .u8 = t := Option.some.inj ((show (some (.int .u8) : Option Ty) = Go.SL.A.D.ty 5 by kernel_rfl).trans ht)
  replace h : ∃ (t : Ty) (x : t.I) (avs' : List AV), Go.SL.A.D.ty 42 = some t ∧ avs = ⟨t, x⟩ :: avs' ∧ argsOk Go.SL.A.D [] 1 avs' bls := h
  obtain ⟨t, x3, avs, ht, rfl, h⟩ := h
  obtain rfl : .int .u32 = t := Option.some.inj ((show (some (.int .u32) : Option Ty) = Go.SL.A.D.ty 42 by kernel_rfl).trans ht)
  obtain ⟨rfl, rfl⟩ : avs = [] ∧ bls = [] := h
  have q := (Go.SL.A.snd8 8 Go.SL.A.sp8 rfl).2 [⟨.ref .slice, .slice 0 (.int .i64) [] 0 x0.length⟩, ⟨.int .u8, x1⟩, ⟨.int .u8, x2⟩, ⟨.int .u32, x3⟩] [⟨true, false, .int .i64, x0⟩] _ rfl (rfl)
  exact q

theorem lifted (os : Os) (started : os.Started) (H : Type) (enc : TypeId × Value → H) :
    ReturnsInHanded {} Go.Proofs.Try.checked os 8 .any (Rows.pvqBackSpec.pre6 enc Go.Proofs.Try.prog Go.Proofs.Try.f8 Rows.pvqBackRow.domain false) (Rows.pvqBackSpec.post enc Go.Proofs.Try.prog Go.Proofs.Try.f8 false true false false) := by
  refine returnsInHanded_of_change (C := Go.Proofs.Try.checked) Seat.own started (by kernel_rfl) Go.Proofs.Try.func8
    (ChangeSpec.witness6 (enc := enc) (C := Go.Proofs.Try.checked) false ⟨#[], #[.slice none 0 0, .int .u8 0, .int .u8 0, .int .u32 0], []⟩ 8 (by kernel_rfl) (by kernel_rfl) (by kernel_rfl) (by kernel_rfl)) ?_
  intro W base args ds gs before hval hW _ _
  refine law_calls (D := Go.SL.A.D) Go.SL.A.good Seat.kids Seat.slicesFull (fun t ht => Nat.le_of_ble_eq_true (List.all_eq_true.1 parsT t ht)) (by kernel_rfl) (show Go.Proofs.Try.f8.resultTypes = #[4] by kernel_rfl) Go.Proofs.Try.underlying4 rfl (fun ds h => ?_) law_pure hval hW
  have h : ds.length = 4 := h
  match ds, h with
  | [_, _, _, _], _ => rfl

theorem joined : joinedFacts Go.Proofs.Try.prog 8 Go.Proofs.Try.f8 Rows.pvqBackSpec Rows.pvqBackRow = true := by
  unfold joinedFacts
  exact (andT (andT (andT (andT (andT (andT (andT (andT (andT (andT (andT (andT (andT (andT (andT (andT (andT (andT (andT (andT (andT (andT (andT (andT (andT (andT (andT (andT (andT (andT (andT (by as_aux_lemma => kernel_rfl) Seat.laidOut) Seat.mapsRowed) (by as_aux_lemma => kernel_rfl)) (by as_aux_lemma => kernel_rfl)) (by as_aux_lemma => kernel_rfl)) Seat.stops) (by as_aux_lemma => kernel_rfl)) Seat.knobs) (by as_aux_lemma => kernel_rfl)) (by as_aux_lemma => kernel_rfl)) (by as_aux_lemma => kernel_rfl)) (by as_aux_lemma => kernel_rfl)) (by as_aux_lemma => kernel_rfl)) (by as_aux_lemma => kernel_rfl)) (by as_aux_lemma => kernel_rfl)) (by as_aux_lemma => kernel_rfl)) (by as_aux_lemma => kernel_rfl)) (by as_aux_lemma => kernel_rfl)) (by as_aux_lemma => kernel_rfl)) (by as_aux_lemma => kernel_rfl)) (by as_aux_lemma => kernel_rfl)) (by as_aux_lemma => kernel_rfl)) (by as_aux_lemma => kernel_rfl)) Seat.heard) Seat.mayEnter) (by rw [Seat.lifts]; rfl)) (by rw [Seat.made]; rfl)) (by as_aux_lemma => kernel_rfl)) (by as_aux_lemma => kernel_rfl)) (by as_aux_lemma => kernel_rfl)) (by as_aux_lemma => kernel_rfl))

theorem pvqBack_holds : Rows.PvqBackSaid :=
  OpenClaim.holds_of_wide 8 Go.Proofs.Try.f8 rfl rfl rfl rfl rfl rfl rfl ⟨rfl, rfl, rfl, rfl, rfl⟩ rfl rfl rfl rfl rfl (by kernel_rfl) Go.Proofs.Try.func8 joined
    (of_decide_eq_true (by kernel_rfl)) (by unfold Func.isWrapper; first | (rw [if_pos (by decide +kernel)]; kernel_rfl) | (rw [if_neg (by decide +kernel)]; exact ⟨rfl, rfl⟩))
    (fun os started H enc _ => lifted os started H enc)

#print axioms pvqBack_holds
end Go.Proofs.Ythhfccnhkadkcaa
