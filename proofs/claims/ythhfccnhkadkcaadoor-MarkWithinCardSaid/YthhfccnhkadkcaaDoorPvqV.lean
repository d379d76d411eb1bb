/- The document's vectors of four, in order. -/
import Derived.Test.YthhfccnhkadkcaaDoorPvqR
import Derived.Test.YthhfccnhkadkcaaDoorKb
import Derived.Test.YthhfccnhkadkcaaDoorPvq

/- The document's vectors of four, in order: plain functions. -/
namespace Go.SL.S
open Go
def rowF (k x y z : Int) : List (List Int) :=
  if k - szR x - szR y - szR z < 0 then [] else if 0 < k - szR x - szR y - szR z then [[x, y, z, k - szR x - szR y - szR z], [x, y, z, -(k - szR x - szR y - szR z)]] else [[x, y, z, k - szR x - szR y - szR z]]
def rows2 (k : Int) (o : List Int) (x y : Int) : List (List Int) := o.flatMap (rowF k x y)
def rows1 (k : Int) (o : List Int) (x : Int) : List (List Int) := o.flatMap (rows2 k o x)
def stA (K a : Nat) : List (List Int) := ((numsF K).take a).flatMap (rows1 K (numsF K))
def stB (K a b : Nat) : List (List Int) := stA K a ++ ((numsF K).take b).flatMap (rows2 K (numsF K) ((numsF K).getD a 0))
def stC (K a b c : Nat) : List (List Int) := stB K a b ++ ((numsF K).take c).flatMap (rowF K ((numsF K).getD a 0) ((numsF K).getD b 0))
def allF (K : Nat) : List (List Int) := stA K (2 * K + 1)
end Go.SL.S
namespace Go.SL.A
open Go Go.SL
def G49v := viewG G49
theorem snd49v : Sound Go.Proofs.Tryd.prog G49v := snd49.view
end Go.SL.A

/- Functions and what they are held to do: bound to their code. -/
namespace Go.SL.A
open Go Go.SL Go.SL.S
set_option maxRecDepth 100000
noncomputable def C47 : Ctx := ⟨Go.Proofs.Tryd.prog, D, G49v, (fun _ _ => none), fun _ => []⟩
def ann47 (k : Int) : Nat → St → Option Ann := fun id S => match id with | 0 => some ⟨Nat, [0, 3], [], fun x => [(5, .v (.int .i64) ((x : Int) + 1)), (4, .v (.ref .slice) (.slice 2 (.int .i64) [] 0 (2 * x + 1)))], fun x => [(2, some ⟨false, false, .int .i64, numsF x⟩)], fun x => x ≤ k.toNat, fun x => k.toNat - x⟩ | 2 => some ⟨Nat, [0, 4], [2], fun a => [(6, .v (.int .i64) (a : Int)), (3, .v (.ref .slice) (.slice 3 (.arr 4 (.int .i64)) [] 0 (stA k.toNat a).length))], fun a => [(3, some ⟨false, false, .arr 4 (.int .i64), stA k.toNat a⟩)], fun a => a ≤ 2 * k.toNat + 1, fun a => 2 * k.toNat + 1 - a⟩ | 4 => some ⟨Nat, [0, 4, 6], [2], fun b => [(7, .v (.int .i64) (b : Int)), (3, .v (.ref .slice) (.slice 4 (.arr 4 (.int .i64)) [] 0 (stB k.toNat (S.i 6).toNat b).length))], fun b => [(4, some ⟨false, false, .arr 4 (.int .i64), stB k.toNat (S.i 6).toNat b⟩)], fun b => b ≤ 2 * k.toNat + 1, fun b => 2 * k.toNat + 1 - b⟩ | _ => some ⟨Nat, [0, 4, 6, 7], [2], fun c => [(8, .v (.int .i64) (c : Int)), (3, .v (.ref .slice) (.slice 5 (.arr 4 (.int .i64)) [] 0 (stC k.toNat (S.i 6).toNat (S.i 7).toNat c).length))], fun c => [(5, some ⟨false, false, .arr 4 (.int .i64), stC k.toNat (S.i 6).toNat (S.i 7).toNat c⟩)], fun c => c ≤ 2 * k.toNat + 1, fun c => 2 * k.toNat + 1 - c⟩
def out47 (k : Int) : COut := ⟨[0 ≤ k ∧ k ≤ 8], .v (.ref .slice) (.slice 0 (.arr 4 (.int .i64)) [] 0 (allF k.toNat).length), [], [⟨false, false, .arr 4 (.int .i64), allF k.toNat⟩]⟩
def sp47 : Spec := fun args ins => match args, ins with
  | [⟨.int .i64, k⟩], [] => some (out47 k)
  | _, _ => none
def G47 := addG G49v 57 sp47
def P47 (k : Int) : Prop :=
  ((1 : Nat) ≤ (1 : Nat) ∧ (0 : Nat) < (1 : Nat) ∧ (8 : Nat) ≤ (70368744177664 : Nat)) ∧ ∃ (x : Nat), ((k = k ∧ (0 : Nat) = (0 : Nat) ∧ (1 : Nat) = (2 : Nat) * x + (1 : Nat) ∧ (1 : Int) = (↑x : Int) + (1 : Int) ∧ seg ((0 :
  Int) :: List.replicate (nat_lit 0) (0 : Int)) (0 : Nat) (1 : Nat) = numsF x ∧ false = false) ∧ x ≤ Int.toNat k) ∧ ∀ (x : Nat), x ≤ Int.toNat k → (IntKind.min IntKind.i64 ≤ (↑x : Int) + (1 : Int) ∧ (↑x : Int) + (1 : Int) ≤
  IntKind.max IntKind.i64 ∧ ∀ (y : Int), List.Mem y (numsF x) → IntKind.min IntKind.i64 ≤ y ∧ y ≤ IntKind.max IntKind.i64) → bif decide ((↑x : Int) + (1 : Int) ≤ k) then ((1 : Nat) ≤ (1 : Nat) ∧ (0 : Nat) + ((2 : Nat) * x +
  (1 : Nat)) = List.length (numsF x) ∧ ((2 : Nat) * x + (1 : Nat) + List.length (seg (((↑x : Int) + (1 : Int)) :: List.replicate (nat_lit 0) (0 : Int)) (0 : Nat) (1 : Nat))) * (8 : Nat) ≤ (70368744177664 : Nat)) ∧ ((1 :
  Nat) ≤ (1 : Nat) ∧ (0 : Nat) + ((2 : Nat) * x + (1 : Nat) + List.length (seg (((↑x : Int) + (1 : Int)) :: List.replicate (nat_lit 0) (0 : Int)) (0 : Nat) (1 : Nat))) = List.length (List.append (List.drop (0 : Nat) (numsF
  x)) (seg (((↑x : Int) + (1 : Int)) :: List.replicate (nat_lit 0) (0 : Int)) (0 : Nat) (1 : Nat))) ∧ ((2 : Nat) * x + (1 : Nat) + List.length (seg (((↑x : Int) + (1 : Int)) :: List.replicate (nat_lit 0) (0 : Int)) (0 :
  Nat) (1 : Nat)) + List.length (seg (IntKind.wrap IntKind.i64 ((0 : Int) - ((↑x : Int) + (1 : Int))) :: List.replicate (nat_lit 0) (0 : Int)) (0 : Nat) (1 : Nat))) * (8 : Nat) ≤ (70368744177664 : Nat)) ∧ ∃ (y : Nat), (k =
  k ∧ (0 : Nat) = (0 : Nat) ∧ (2 : Nat) * x + (1 : Nat) + List.length (seg (((↑x : Int) + (1 : Int)) :: List.replicate (nat_lit 0) (0 : Int)) (0 : Nat) (1 : Nat)) + List.length (seg (IntKind.wrap IntKind.i64 ((0 : Int) -
  ((↑x : Int) + (1 : Int))) :: List.replicate (nat_lit 0) (0 : Int)) (0 : Nat) (1 : Nat)) = (2 : Nat) * y + (1 : Nat) ∧ IntKind.wrap IntKind.i64 ((↑x : Int) + (1 : Int) + (1 : Int)) = (↑y : Int) + (1 : Int) ∧ List.append
  (List.drop (0 : Nat) (List.append (List.drop (0 : Nat) (numsF x)) (seg (((↑x : Int) + (1 : Int)) :: List.replicate (nat_lit 0) (0 : Int)) (0 : Nat) (1 : Nat)))) (seg (IntKind.wrap IntKind.i64 ((0 : Int) - ((↑x : Int) + (1
  : Int))) :: List.replicate (nat_lit 0) (0 : Int)) (0 : Nat) (1 : Nat)) = numsF y ∧ false = false) ∧ y ≤ Int.toNat k ∧ Int.toNat k - y < Int.toNat k - x else ∃ (x_1 : Nat), ((k = k ∧ List.length (stA (Int.toNat k) x_1) =
  (0 : Nat) ∧ (0 : Nat) = (0 : Nat) ∧ (2 : Nat) * x + (1 : Nat) = (2 : Nat) * x + (1 : Nat) ∧ (0 : Int) = (↑x_1 : Int) ∧ numsF x = numsF x ∧ false = false ∧ stA (Int.toNat k) x_1 = []) ∧ x_1 ≤ (2 : Nat) * Int.toNat k + (1 :
  Nat)) ∧ ∀ (x_2 : Nat), x_2 ≤ (2 : Nat) * Int.toNat k + (1 : Nat) → (IntKind.min IntKind.i64 ≤ (↑x_2 : Int) ∧ (↑x_2 : Int) ≤ IntKind.max IntKind.i64 ∧ ∀ (y : List Int), List.Mem y (stA (Int.toNat k) x_2) → List.length y =
  (4 : Nat) ∧ ∀ (y_1 : Int), List.Mem y_1 y → IntKind.min IntKind.i64 ≤ y_1 ∧ y_1 ≤ IntKind.max IntKind.i64) → bif decide ((↑x_2 : Int) < (↑((2 : Nat) * x + (1 : Nat)) : Int)) then ∃ (x_3 : Nat), ((k = k ∧ (0 : Nat) = (0 :
  Nat) ∧ List.length (stA (Int.toNat k) x_2) = List.length (stB (Int.toNat k) (Int.toNat (↑x_2 : Int)) x_3) ∧ (0 : Nat) = (0 : Nat) ∧ (2 : Nat) * x + (1 : Nat) = (2 : Nat) * x + (1 : Nat) ∧ (↑x_2 : Int) = (↑x_2 : Int) ∧ (0
  : Int) = (↑x_3 : Int) ∧ numsF x = numsF x ∧ false = false ∧ stA (Int.toNat k) x_2 = stB (Int.toNat k) (Int.toNat (↑x_2 : Int)) x_3 ∧ false = false) ∧ x_3 ≤ (2 : Nat) * Int.toNat k + (1 : Nat)) ∧ ∀ (x_4 : Nat), x_4 ≤ (2 :
  Nat) * Int.toNat k + (1 : Nat) → (IntKind.min IntKind.i64 ≤ (↑x_4 : Int) ∧ (↑x_4 : Int) ≤ IntKind.max IntKind.i64 ∧ ∀ (y : List Int), List.Mem y (stB (Int.toNat k) (Int.toNat (↑x_2 : Int)) x_4) → List.length y = (4 : Nat)
  ∧ ∀ (y_1 : Int), List.Mem y_1 y → IntKind.min IntKind.i64 ≤ y_1 ∧ y_1 ≤ IntKind.max IntKind.i64) → bif decide ((↑x_4 : Int) < (↑((2 : Nat) * x + (1 : Nat)) : Int)) then ∃ (x_5 : Nat), ((k = k ∧ (0 : Nat) = (0 : Nat) ∧
  List.length (stB (Int.toNat k) (Int.toNat (↑x_2 : Int)) x_4) = List.length (stC (Int.toNat k) (Int.toNat (↑x_2 : Int)) (Int.toNat (↑x_4 : Int)) x_5) ∧ (0 : Nat) = (0 : Nat) ∧ (2 : Nat) * x + (1 : Nat) = (2 : Nat) * x + (1
  : Nat) ∧ (↑x_2 : Int) = (↑x_2 : Int) ∧ (↑x_4 : Int) = (↑x_4 : Int) ∧ (0 : Int) = (↑x_5 : Int) ∧ numsF x = numsF x ∧ false = false ∧ stB (Int.toNat k) (Int.toNat (↑x_2 : Int)) x_4 = stC (Int.toNat k) (Int.toNat (↑x_2 :
  Int)) (Int.toNat (↑x_4 : Int)) x_5 ∧ false = false) ∧ x_5 ≤ (2 : Nat) * Int.toNat k + (1 : Nat)) ∧ ∀ (x_6 : Nat), x_6 ≤ (2 : Nat) * Int.toNat k + (1 : Nat) → (IntKind.min IntKind.i64 ≤ (↑x_6 : Int) ∧ (↑x_6 : Int) ≤
  IntKind.max IntKind.i64 ∧ ∀ (y : List Int), List.Mem y (stC (Int.toNat k) (Int.toNat (↑x_2 : Int)) (Int.toNat (↑x_4 : Int)) x_6) → List.length y = (4 : Nat) ∧ ∀ (y_1 : Int), List.Mem y_1 y → IntKind.min IntKind.i64 ≤ y_1
  ∧ y_1 ≤ IntKind.max IntKind.i64) → bif decide ((↑x_6 : Int) < (↑((2 : Nat) * x + (1 : Nat)) : Int)) then (((0 : Int) ≤ (↑x_2 : Int) ∧ (↑x_2 : Int) < (↑((2 : Nat) * x + (1 : Nat)) : Int)) ∧ (0 : Nat) + Int.toNat (↑x_2 :
  Int) < List.length (numsF x) ∧ ((0 : Int) ≤ (↑x_4 : Int) ∧ (↑x_4 : Int) < (↑((2 : Nat) * x + (1 : Nat)) : Int)) ∧ (0 : Nat) + Int.toNat (↑x_4 : Int) < List.length (numsF x) ∧ ((0 : Int) ≤ (↑x_6 : Int) ∧ (↑x_6 : Int) <
  (↑((2 : Nat) * x + (1 : Nat)) : Int)) ∧ (0 : Nat) + Int.toNat (↑x_6 : Int) < List.length (numsF x)) ∧ bif decide (IntKind.wrap IntKind.i64 (IntKind.wrap IntKind.i64 (IntKind.wrap IntKind.i64 (k - szR (List.getD (numsF x)
  ((0 : Nat) + Int.toNat (↑x_2 : Int)) (0 : Int))) - szR (List.getD (numsF x) ((0 : Nat) + Int.toNat (↑x_4 : Int)) (0 : Int))) - szR (List.getD (numsF x) ((0 : Nat) + Int.toNat (↑x_6 : Int)) (0 : Int))) < (0 : Int)) then ∃
  (y : Nat), (k = k ∧ (0 : Nat) = (0 : Nat) ∧ List.length (stC (Int.toNat k) (Int.toNat (↑x_2 : Int)) (Int.toNat (↑x_4 : Int)) x_6) = List.length (stC (Int.toNat k) (Int.toNat (↑x_2 : Int)) (Int.toNat (↑x_4 : Int)) y) ∧ (0
  : Nat) = (0 : Nat) ∧ (2 : Nat) * x + (1 : Nat) = (2 : Nat) * x + (1 : Nat) ∧ (↑x_2 : Int) = (↑x_2 : Int) ∧ (↑x_4 : Int) = (↑x_4 : Int) ∧ IntKind.wrap IntKind.i64 ((↑x_6 : Int) + (1 : Int)) = (↑y : Int) ∧ numsF x = numsF x
  ∧ false = false ∧ stC (Int.toNat k) (Int.toNat (↑x_2 : Int)) (Int.toNat (↑x_4 : Int)) x_6 = stC (Int.toNat k) (Int.toNat (↑x_2 : Int)) (Int.toNat (↑x_4 : Int)) y ∧ false = false) ∧ y ≤ (2 : Nat) * Int.toNat k + (1 : Nat)
  ∧ (2 : Nat) * Int.toNat k + (1 : Nat) - y < (2 : Nat) * Int.toNat k + (1 : Nat) - x_6 else (((0 : Int) ≤ (↑x_2 : Int) ∧ (↑x_2 : Int) < (↑((2 : Nat) * x + (1 : Nat)) : Int)) ∧ (0 : Nat) + Int.toNat (↑x_2 : Int) <
  List.length (numsF x) ∧ ((0 : Int) ≤ (↑x_4 : Int) ∧ (↑x_4 : Int) < (↑((2 : Nat) * x + (1 : Nat)) : Int)) ∧ (0 : Nat) + Int.toNat (↑x_4 : Int) < List.length (numsF x) ∧ ((0 : Int) ≤ (↑x_6 : Int) ∧ (↑x_6 : Int) < (↑((2 :
  Nat) * x + (1 : Nat)) : Int)) ∧ (0 : Nat) + Int.toNat (↑x_6 : Int) < List.length (numsF x) ∧ (1 : Nat) ≤ (1 : Nat) ∧ (0 : Nat) + List.length (stC (Int.toNat k) (Int.toNat (↑x_2 : Int)) (Int.toNat (↑x_4 : Int)) x_6) =
  List.length (stC (Int.toNat k) (Int.toNat (↑x_2 : Int)) (Int.toNat (↑x_4 : Int)) x_6) ∧ (List.length (stC (Int.toNat k) (Int.toNat (↑x_2 : Int)) (Int.toNat (↑x_4 : Int)) x_6) + List.length (seg ((List.getD (numsF x) ((0 :
  Nat) + Int.toNat (↑x_2 : Int)) (0 : Int) :: List.set (List.set (List.set (List.replicate (nat_lit 3) (0 : Int)) (nat_lit 0) (List.getD (numsF x) ((0 : Nat) + Int.toNat (↑x_4 : Int)) (0 : Int))) (nat_lit 1) (List.getD
  (numsF x) ((0 : Nat) + Int.toNat (↑x_6 : Int)) (0 : Int))) (nat_lit 2) (IntKind.wrap IntKind.i64 (IntKind.wrap IntKind.i64 (IntKind.wrap IntKind.i64 (k - szR (List.getD (numsF x) ((0 : Nat) + Int.toNat (↑x_2 : Int)) (0 :
  Int))) - szR (List.getD (numsF x) ((0 : Nat) + Int.toNat (↑x_4 : Int)) (0 : Int))) - szR (List.getD (numsF x) ((0 : Nat) + Int.toNat (↑x_6 : Int)) (0 : Int))))) :: List.replicate (nat_lit 0) (List.replicate (4 : Nat) (0 :
  Int))) (0 : Nat) (1 : Nat))) * (32 : Nat) ≤ (70368744177664 : Nat)) ∧ bif decide ((0 : Int) < IntKind.wrap IntKind.i64 (IntKind.wrap IntKind.i64 (IntKind.wrap IntKind.i64 (k - szR (List.getD (numsF x) ((0 : Nat) +
  Int.toNat (↑x_2 : Int)) (0 : Int))) - szR (List.getD (numsF x) ((0 : Nat) + Int.toNat (↑x_4 : Int)) (0 : Int))) - szR (List.getD (numsF x) ((0 : Nat) + Int.toNat (↑x_6 : Int)) (0 : Int)))) then (((0 : Int) ≤ (↑x_2 : Int)
  ∧ (↑x_2 : Int) < (↑((2 : Nat) * x + (1 : Nat)) : Int)) ∧ (0 : Nat) + Int.toNat (↑x_2 : Int) < List.length (numsF x) ∧ ((0 : Int) ≤ (↑x_4 : Int) ∧ (↑x_4 : Int) < (↑((2 : Nat) * x + (1 : Nat)) : Int)) ∧ (0 : Nat) +
  Int.toNat (↑x_4 : Int) < List.length (numsF x) ∧ ((0 : Int) ≤ (↑x_6 : Int) ∧ (↑x_6 : Int) < (↑((2 : Nat) * x + (1 : Nat)) : Int)) ∧ (0 : Nat) + Int.toNat (↑x_6 : Int) < List.length (numsF x) ∧ (1 : Nat) ≤ (1 : Nat) ∧ (0 :
  Nat) + (List.length (stC (Int.toNat k) (Int.toNat (↑x_2 : Int)) (Int.toNat (↑x_4 : Int)) x_6) + List.length (seg ((List.getD (numsF x) ((0 : Nat) + Int.toNat (↑x_2 : Int)) (0 : Int) :: List.set (List.set (List.set
  (List.replicate (nat_lit 3) (0 : Int)) (nat_lit 0) (List.getD (numsF x) ((0 : Nat) + Int.toNat (↑x_4 : Int)) (0 : Int))) (nat_lit 1) (List.getD (numsF x) ((0 : Nat) + Int.toNat (↑x_6 : Int)) (0 : Int))) (nat_lit 2)
  (IntKind.wrap IntKind.i64 (IntKind.wrap IntKind.i64 (IntKind.wrap IntKind.i64 (k - szR (List.getD (numsF x) ((0 : Nat) + Int.toNat (↑x_2 : Int)) (0 : Int))) - szR (List.getD (numsF x) ((0 : Nat) + Int.toNat (↑x_4 : Int))
  (0 : Int))) - szR (List.getD (numsF x) ((0 : Nat) + Int.toNat (↑x_6 : Int)) (0 : Int))))) :: List.replicate (nat_lit 0) (List.replicate (4 : Nat) (0 : Int))) (0 : Nat) (1 : Nat))) = List.length (List.append (List.drop (0
  : Nat) (stC (Int.toNat k) (Int.toNat (↑x_2 : Int)) (Int.toNat (↑x_4 : Int)) x_6)) (seg ((List.getD (numsF x) ((0 : Nat) + Int.toNat (↑x_2 : Int)) (0 : Int) :: List.set (List.set (List.set (List.replicate (nat_lit 3) (0 :
  Int)) (nat_lit 0) (List.getD (numsF x) ((0 : Nat) + Int.toNat (↑x_4 : Int)) (0 : Int))) (nat_lit 1) (List.getD (numsF x) ((0 : Nat) + Int.toNat (↑x_6 : Int)) (0 : Int))) (nat_lit 2) (IntKind.wrap IntKind.i64 (IntKind.wrap
  IntKind.i64 (IntKind.wrap IntKind.i64 (k - szR (List.getD (numsF x) ((0 : Nat) + Int.toNat (↑x_2 : Int)) (0 : Int))) - szR (List.getD (numsF x) ((0 : Nat) + Int.toNat (↑x_4 : Int)) (0 : Int))) - szR (List.getD (numsF x)
  ((0 : Nat) + Int.toNat (↑x_6 : Int)) (0 : Int))))) :: List.replicate (nat_lit 0) (List.replicate (4 : Nat) (0 : Int))) (0 : Nat) (1 : Nat))) ∧ (List.length (stC (Int.toNat k) (Int.toNat (↑x_2 : Int)) (Int.toNat (↑x_4 :
  Int)) x_6) + List.length (seg ((List.getD (numsF x) ((0 : Nat) + Int.toNat (↑x_2 : Int)) (0 : Int) :: List.set (List.set (List.set (List.replicate (nat_lit 3) (0 : Int)) (nat_lit 0) (List.getD (numsF x) ((0 : Nat) +
  Int.toNat (↑x_4 : Int)) (0 : Int))) (nat_lit 1) (List.getD (numsF x) ((0 : Nat) + Int.toNat (↑x_6 : Int)) (0 : Int))) (nat_lit 2) (IntKind.wrap IntKind.i64 (IntKind.wrap IntKind.i64 (IntKind.wrap IntKind.i64 (k - szR
  (List.getD (numsF x) ((0 : Nat) + Int.toNat (↑x_2 : Int)) (0 : Int))) - szR (List.getD (numsF x) ((0 : Nat) + Int.toNat (↑x_4 : Int)) (0 : Int))) - szR (List.getD (numsF x) ((0 : Nat) + Int.toNat (↑x_6 : Int)) (0 :
  Int))))) :: List.replicate (nat_lit 0) (List.replicate (4 : Nat) (0 : Int))) (0 : Nat) (1 : Nat)) + List.length (seg ((List.getD (numsF x) ((0 : Nat) + Int.toNat (↑x_2 : Int)) (0 : Int) :: List.set (List.set (List.set
  (List.replicate (nat_lit 3) (0 : Int)) (nat_lit 0) (List.getD (numsF x) ((0 : Nat) + Int.toNat (↑x_4 : Int)) (0 : Int))) (nat_lit 1) (List.getD (numsF x) ((0 : Nat) + Int.toNat (↑x_6 : Int)) (0 : Int))) (nat_lit 2)
  (IntKind.wrap IntKind.i64 ((0 : Int) - IntKind.wrap IntKind.i64 (IntKind.wrap IntKind.i64 (IntKind.wrap IntKind.i64 (k - szR (List.getD (numsF x) ((0 : Nat) + Int.toNat (↑x_2 : Int)) (0 : Int))) - szR (List.getD (numsF x)
  ((0 : Nat) + Int.toNat (↑x_4 : Int)) (0 : Int))) - szR (List.getD (numsF x) ((0 : Nat) + Int.toNat (↑x_6 : Int)) (0 : Int)))))) :: List.replicate (nat_lit 0) (List.replicate (4 : Nat) (0 : Int))) (0 : Nat) (1 : Nat))) *
  (32 : Nat) ≤ (70368744177664 : Nat)) ∧ ∃ (y : Nat), (k = k ∧ (0 : Nat) = (0 : Nat) ∧ List.length (stC (Int.toNat k) (Int.toNat (↑x_2 : Int)) (Int.toNat (↑x_4 : Int)) x_6) + List.length (seg ((List.getD (numsF x) ((0 :
  Nat) + Int.toNat (↑x_2 : Int)) (0 : Int) :: List.set (List.set (List.set (List.replicate (nat_lit 3) (0 : Int)) (nat_lit 0) (List.getD (numsF x) ((0 : Nat) + Int.toNat (↑x_4 : Int)) (0 : Int))) (nat_lit 1) (List.getD
  (numsF x) ((0 : Nat) + Int.toNat (↑x_6 : Int)) (0 : Int))) (nat_lit 2) (IntKind.wrap IntKind.i64 (IntKind.wrap IntKind.i64 (IntKind.wrap IntKind.i64 (k - szR (List.getD (numsF x) ((0 : Nat) + Int.toNat (↑x_2 : Int)) (0 :
  Int))) - szR (List.getD (numsF x) ((0 : Nat) + Int.toNat (↑x_4 : Int)) (0 : Int))) - szR (List.getD (numsF x) ((0 : Nat) + Int.toNat (↑x_6 : Int)) (0 : Int))))) :: List.replicate (nat_lit 0) (List.replicate (4 : Nat) (0 :
  Int))) (0 : Nat) (1 : Nat)) + List.length (seg ((List.getD (numsF x) ((0 : Nat) + Int.toNat (↑x_2 : Int)) (0 : Int) :: List.set (List.set (List.set (List.replicate (nat_lit 3) (0 : Int)) (nat_lit 0) (List.getD (numsF x)
  ((0 : Nat) + Int.toNat (↑x_4 : Int)) (0 : Int))) (nat_lit 1) (List.getD (numsF x) ((0 : Nat) + Int.toNat (↑x_6 : Int)) (0 : Int))) (nat_lit 2) (IntKind.wrap IntKind.i64 ((0 : Int) - IntKind.wrap IntKind.i64 (IntKind.wrap
  IntKind.i64 (IntKind.wrap IntKind.i64 (k - szR (List.getD (numsF x) ((0 : Nat) + Int.toNat (↑x_2 : Int)) (0 : Int))) - szR (List.getD (numsF x) ((0 : Nat) + Int.toNat (↑x_4 : Int)) (0 : Int))) - szR (List.getD (numsF x)
  ((0 : Nat) + Int.toNat (↑x_6 : Int)) (0 : Int)))))) :: List.replicate (nat_lit 0) (List.replicate (4 : Nat) (0 : Int))) (0 : Nat) (1 : Nat)) = List.length (stC (Int.toNat k) (Int.toNat (↑x_2 : Int)) (Int.toNat (↑x_4 :
  Int)) y) ∧ (0 : Nat) = (0 : Nat) ∧ (2 : Nat) * x + (1 : Nat) = (2 : Nat) * x + (1 : Nat) ∧ (↑x_2 : Int) = (↑x_2 : Int) ∧ (↑x_4 : Int) = (↑x_4 : Int) ∧ IntKind.wrap IntKind.i64 ((↑x_6 : Int) + (1 : Int)) = (↑y : Int) ∧
  numsF x = numsF x ∧ false = false ∧ List.append (List.drop (0 : Nat) (List.append (List.drop (0 : Nat) (stC (Int.toNat k) (Int.toNat (↑x_2 : Int)) (Int.toNat (↑x_4 : Int)) x_6)) (seg ((List.getD (numsF x) ((0 : Nat) +
  Int.toNat (↑x_2 : Int)) (0 : Int) :: List.set (List.set (List.set (List.replicate (nat_lit 3) (0 : Int)) (nat_lit 0) (List.getD (numsF x) ((0 : Nat) + Int.toNat (↑x_4 : Int)) (0 : Int))) (nat_lit 1) (List.getD (numsF x)
  ((0 : Nat) + Int.toNat (↑x_6 : Int)) (0 : Int))) (nat_lit 2) (IntKind.wrap IntKind.i64 (IntKind.wrap IntKind.i64 (IntKind.wrap IntKind.i64 (k - szR (List.getD (numsF x) ((0 : Nat) + Int.toNat (↑x_2 : Int)) (0 : Int))) -
  szR (List.getD (numsF x) ((0 : Nat) + Int.toNat (↑x_4 : Int)) (0 : Int))) - szR (List.getD (numsF x) ((0 : Nat) + Int.toNat (↑x_6 : Int)) (0 : Int))))) :: List.replicate (nat_lit 0) (List.replicate (4 : Nat) (0 : Int)))
  (0 : Nat) (1 : Nat)))) (seg ((List.getD (numsF x) ((0 : Nat) + Int.toNat (↑x_2 : Int)) (0 : Int) :: List.set (List.set (List.set (List.replicate (nat_lit 3) (0 : Int)) (nat_lit 0) (List.getD (numsF x) ((0 : Nat) +
  Int.toNat (↑x_4 : Int)) (0 : Int))) (nat_lit 1) (List.getD (numsF x) ((0 : Nat) + Int.toNat (↑x_6 : Int)) (0 : Int))) (nat_lit 2) (IntKind.wrap IntKind.i64 ((0 : Int) - IntKind.wrap IntKind.i64 (IntKind.wrap IntKind.i64
  (IntKind.wrap IntKind.i64 (k - szR (List.getD (numsF x) ((0 : Nat) + Int.toNat (↑x_2 : Int)) (0 : Int))) - szR (List.getD (numsF x) ((0 : Nat) + Int.toNat (↑x_4 : Int)) (0 : Int))) - szR (List.getD (numsF x) ((0 : Nat) +
  Int.toNat (↑x_6 : Int)) (0 : Int)))))) :: List.replicate (nat_lit 0) (List.replicate (4 : Nat) (0 : Int))) (0 : Nat) (1 : Nat)) = stC (Int.toNat k) (Int.toNat (↑x_2 : Int)) (Int.toNat (↑x_4 : Int)) y ∧ false = false) ∧ y
  ≤ (2 : Nat) * Int.toNat k + (1 : Nat) ∧ (2 : Nat) * Int.toNat k + (1 : Nat) - y < (2 : Nat) * Int.toNat k + (1 : Nat) - x_6 else ∃ (y : Nat), (k = k ∧ (0 : Nat) = (0 : Nat) ∧ List.length (stC (Int.toNat k) (Int.toNat
  (↑x_2 : Int)) (Int.toNat (↑x_4 : Int)) x_6) + List.length (seg ((List.getD (numsF x) ((0 : Nat) + Int.toNat (↑x_2 : Int)) (0 : Int) :: List.set (List.set (List.set (List.replicate (nat_lit 3) (0 : Int)) (nat_lit 0)
  (List.getD (numsF x) ((0 : Nat) + Int.toNat (↑x_4 : Int)) (0 : Int))) (nat_lit 1) (List.getD (numsF x) ((0 : Nat) + Int.toNat (↑x_6 : Int)) (0 : Int))) (nat_lit 2) (IntKind.wrap IntKind.i64 (IntKind.wrap IntKind.i64
  (IntKind.wrap IntKind.i64 (k - szR (List.getD (numsF x) ((0 : Nat) + Int.toNat (↑x_2 : Int)) (0 : Int))) - szR (List.getD (numsF x) ((0 : Nat) + Int.toNat (↑x_4 : Int)) (0 : Int))) - szR (List.getD (numsF x) ((0 : Nat) +
  Int.toNat (↑x_6 : Int)) (0 : Int))))) :: List.replicate (nat_lit 0) (List.replicate (4 : Nat) (0 : Int))) (0 : Nat) (1 : Nat)) = List.length (stC (Int.toNat k) (Int.toNat (↑x_2 : Int)) (Int.toNat (↑x_4 : Int)) y) ∧ (0 :
  Nat) = (0 : Nat) ∧ (2 : Nat) * x + (1 : Nat) = (2 : Nat) * x + (1 : Nat) ∧ (↑x_2 : Int) = (↑x_2 : Int) ∧ (↑x_4 : Int) = (↑x_4 : Int) ∧ IntKind.wrap IntKind.i64 ((↑x_6 : Int) + (1 : Int)) = (↑y : Int) ∧ numsF x = numsF x ∧
  false = false ∧ List.append (List.drop (0 : Nat) (stC (Int.toNat k) (Int.toNat (↑x_2 : Int)) (Int.toNat (↑x_4 : Int)) x_6)) (seg ((List.getD (numsF x) ((0 : Nat) + Int.toNat (↑x_2 : Int)) (0 : Int) :: List.set (List.set
  (List.set (List.replicate (nat_lit 3) (0 : Int)) (nat_lit 0) (List.getD (numsF x) ((0 : Nat) + Int.toNat (↑x_4 : Int)) (0 : Int))) (nat_lit 1) (List.getD (numsF x) ((0 : Nat) + Int.toNat (↑x_6 : Int)) (0 : Int))) (nat_lit
  2) (IntKind.wrap IntKind.i64 (IntKind.wrap IntKind.i64 (IntKind.wrap IntKind.i64 (k - szR (List.getD (numsF x) ((0 : Nat) + Int.toNat (↑x_2 : Int)) (0 : Int))) - szR (List.getD (numsF x) ((0 : Nat) + Int.toNat (↑x_4 :
  Int)) (0 : Int))) - szR (List.getD (numsF x) ((0 : Nat) + Int.toNat (↑x_6 : Int)) (0 : Int))))) :: List.replicate (nat_lit 0) (List.replicate (4 : Nat) (0 : Int))) (0 : Nat) (1 : Nat)) = stC (Int.toNat k) (Int.toNat (↑x_2
  : Int)) (Int.toNat (↑x_4 : Int)) y ∧ false = false) ∧ y ≤ (2 : Nat) * Int.toNat k + (1 : Nat) ∧ (2 : Nat) * Int.toNat k + (1 : Nat) - y < (2 : Nat) * Int.toNat k + (1 : Nat) - x_6 else ∃ (y : Nat), (k = k ∧ (0 : Nat) = (0
  : Nat) ∧ List.length (stC (Int.toNat k) (Int.toNat (↑x_2 : Int)) (Int.toNat (↑x_4 : Int)) x_6) = List.length (stB (Int.toNat k) (Int.toNat (↑x_2 : Int)) y) ∧ (0 : Nat) = (0 : Nat) ∧ (2 : Nat) * x + (1 : Nat) = (2 : Nat) *
  x + (1 : Nat) ∧ (↑x_2 : Int) = (↑x_2 : Int) ∧ IntKind.wrap IntKind.i64 ((↑x_4 : Int) + (1 : Int)) = (↑y : Int) ∧ numsF x = numsF x ∧ false = false ∧ stC (Int.toNat k) (Int.toNat (↑x_2 : Int)) (Int.toNat (↑x_4 : Int)) x_6
  = stB (Int.toNat k) (Int.toNat (↑x_2 : Int)) y ∧ false = false) ∧ y ≤ (2 : Nat) * Int.toNat k + (1 : Nat) ∧ (2 : Nat) * Int.toNat k + (1 : Nat) - y < (2 : Nat) * Int.toNat k + (1 : Nat) - x_4 else ∃ (y : Nat), (k = k ∧ (0
  : Nat) = (0 : Nat) ∧ List.length (stB (Int.toNat k) (Int.toNat (↑x_2 : Int)) x_4) = List.length (stA (Int.toNat k) y) ∧ (0 : Nat) = (0 : Nat) ∧ (2 : Nat) * x + (1 : Nat) = (2 : Nat) * x + (1 : Nat) ∧ IntKind.wrap
  IntKind.i64 ((↑x_2 : Int) + (1 : Int)) = (↑y : Int) ∧ numsF x = numsF x ∧ false = false ∧ stB (Int.toNat k) (Int.toNat (↑x_2 : Int)) x_4 = stA (Int.toNat k) y ∧ false = false) ∧ y ≤ (2 : Nat) * Int.toNat k + (1 : Nat) ∧
  (2 : Nat) * Int.toNat k + (1 : Nat) - y < (2 : Nat) * Int.toNat k + (1 : Nat) - x_2 else (0 : Nat) = (0 : Nat) ∧ List.length (stA (Int.toNat k) x_2) = List.length (allF (Int.toNat k)) ∧ stA (Int.toNat k) x_2 = allF
  (Int.toNat k) ∧ false = false
theorem vc47 (k : Int) : P47 k = vcFun C47 (ann47 k) Go.Proofs.Tryd.f57 [⟨.int .i64, k⟩] [] (out47 k) := by kernel_rfl

end Go.SL.A

/- The document's vectors of four: the code. -/
namespace Go.SL.A
open Go Go.SL Go.SL.S

theorem szR_nums {K : Nat} (hK : K ≤ 12) {z : Int} (h : z ∈ numsF K) : 0 ≤ szR z ∧ szR z ≤ K ∧ (szR z = z ∨ szR z = -z) := by
  have := mem_numsF.1 h
  unfold szR
  split
  · rw [w64 (by omega) (by omega)]; omega
  · omega

theorem rowF_len (k x y z : Int) : (rowF k x y z).length ≤ 2 := by
  unfold rowF; split
  · simp
  · split <;> simp

theorem flat_len {α β : Type} {f : α → List β} {m : Nat} (h : ∀ x, (f x).length ≤ m) : ∀ l : List α, (l.flatMap f).length ≤ l.length * m
  | [] => by simp
  | x :: l => by
    have := h x
    have := flat_len h l
    rw [List.flatMap_cons, List.length_append, List.length_cons, Nat.add_mul]; omega

theorem st_lens {K : Nat} (hK : K ≤ 12) (a b c : Nat) : (stA K a).length ≤ 31250 ∧ (stB K a b).length ≤ 32500 ∧ (stC K a b c).length ≤ 32550 := by
  have hl := numsF_len K
  have t : ∀ n, ((numsF K).take n).length ≤ 25 := fun n => by rw [List.length_take]; omega
  have r2 : ∀ x y, (rows2 K (numsF K) x y).length ≤ 50 := fun x y => by
    have := flat_len (m := 2) (fun z => rowF_len K x y z) (numsF K)
    unfold rows2; omega
  have r1 : ∀ x, (rows1 K (numsF K) x).length ≤ 1250 := fun x => by
    have := flat_len (m := 50) (fun z => r2 x z) (numsF K)
    unfold rows1; omega
  have hA : (stA K a).length ≤ 31250 := by
    have := flat_len (m := 1250) r1 ((numsF K).take a)
    have := t a
    unfold stA; omega
  have hB : (stB K a b).length ≤ 32500 := by
    have := flat_len (m := 50) (fun z => r2 ((numsF K).getD a 0) z) ((numsF K).take b)
    have := t b
    unfold stB; rw [List.length_append]; omega
  have hC : (stC K a b c).length ≤ 32550 := by
    have := flat_len (m := 2) (fun z => rowF_len K ((numsF K).getD a 0) ((numsF K).getD b 0) z) ((numsF K).take c)
    have := t c
    unfold stC; rw [List.length_append]; omega
  exact ⟨hA, hB, hC⟩

theorem stC_succ {K a b c : Nat} (hc : c < 2 * K + 1) : stC K a b (c + 1) = stC K a b c ++ rowF K ((numsF K).getD a 0) ((numsF K).getD b 0) ((numsF K).getD c 0) := by
  unfold stC
  rw [take_snoc' 0 (by rw [numsF_len]; omega), List.flatMap_append]; simp

theorem stC_all {K a b : Nat} (hb : b < 2 * K + 1) : stC K a b (2 * K + 1) = stB K a (b + 1) := by
  unfold stC stB rows2
  rw [take_snoc' (k := b) 0 (by rw [numsF_len]; omega), List.flatMap_append, List.take_of_length_le (l := numsF K) (i := 2 * K + 1) (by rw [numsF_len]; omega)]; simp

theorem stB_all {K a : Nat} (ha : a < 2 * K + 1) : stB K a (2 * K + 1) = stA K (a + 1) := by
  unfold stB stA rows1
  rw [take_snoc' (k := a) 0 (by rw [numsF_len]; omega), List.flatMap_append, List.take_of_length_le (l := numsF K) (i := 2 * K + 1) (by rw [numsF_len]; omega)]; simp

theorem seg1 {α : Type} (x : α) (l : List α) : seg (x :: l) 0 1 = [x] := rfl

theorem pure47 (k : Int) (h : 0 ≤ k ∧ k ≤ 8) : P47 k := by
  obtain ⟨K, rfl⟩ : ∃ K : Nat, k = K := ⟨k.toNat, by omega⟩
  have hK : K ≤ 12 := by omega
  have hl := numsF_len K
  unfold P47
  simp only [Int.toNat_natCast, Nat.zero_add, eq_self, true_and, and_true, seg1, List.length_singleton, List.drop_zero, List.append_eq]
  refine ⟨by omega, 0, ⟨⟨by omega, by simp, by simp [numsF]⟩, by omega⟩, fun x hx _ => ?_⟩
  by_cases hxk : (x : Int) + 1 ≤ (K : Int)
  · have w1 : IntKind.i64.wrap ((x : Int) + 1 + 1) = ((x + 1 : Nat) : Int) + 1 := by rw [w64 (by omega) (by omega)]; simp
    have w2 : IntKind.i64.wrap (0 - ((x : Int) + 1)) = -((x + 1 : Nat) : Int) := by rw [w64 (by omega) (by omega)]; omega
    simp only [hxk, decide_true, cond_true, w1, w2, List.length_append, numsF_len, List.length_singleton]
    refine ⟨by simp <;> omega, by simp <;> omega, x + 1, ⟨by omega, rfl, ?_⟩, by omega, by omega⟩
    rw [numsF, List.append_assoc]; simp
  have : x = K := by omega
  subst this
  simp only [hxk, decide_false, cond_false]
  refine ⟨0, ⟨⟨by simp [stA], by simp, by simp [stA]⟩, by omega⟩, fun a ha _ => ?_⟩
  by_cases hax : (a : Int) < ((2 * x + 1 : Nat) : Int)
  · have ha2 : a < 2 * x + 1 := by omega
    have wa : IntKind.i64.wrap ((a : Int) + 1) = ((a + 1 : Nat) : Int) := by rw [w64 (by omega) (by omega)]; simp
    have ma := szR_nums hK (getD_mem (d := 0) (f := numsF x) (k := a) (by omega))
    simp only [hax, decide_true, cond_true, wa]
    refine ⟨0, ⟨⟨by simp [stB], by simp, by simp [stB]⟩, by omega⟩, fun b hb _ => ?_⟩
    by_cases hbx : (b : Int) < ((2 * x + 1 : Nat) : Int)
    · have hb2 : b < 2 * x + 1 := by omega
      have wb : IntKind.i64.wrap ((b : Int) + 1) = ((b + 1 : Nat) : Int) := by rw [w64 (by omega) (by omega)]; simp
      have mb := szR_nums hK (getD_mem (d := 0) (f := numsF x) (k := b) (by omega))
      simp only [hbx, decide_true, cond_true, wb]
      refine ⟨0, ⟨⟨by simp [stC], by simp, by simp [stC]⟩, by omega⟩, fun c hc _ => ?_⟩
      by_cases hcx : (c : Int) < ((2 * x + 1 : Nat) : Int)
      · have hc2 : c < 2 * x + 1 := by omega
        have wc : IntKind.i64.wrap ((c : Int) + 1) = ((c + 1 : Nat) : Int) := by rw [w64 (by omega) (by omega)]; simp
        have mc := szR_nums hK (getD_mem (d := 0) (f := numsF x) (k := c) (by omega))
        have hs := (st_lens hK a b c).2.2
        have hst := stC_succ (K := x) (a := a) (b := b) hc2
        have n1 : (0 : Int) ≤ a := by omega
        have n2 : (0 : Int) ≤ b := by omega
        have n3 : (0 : Int) ≤ c := by omega
        have w1 : IntKind.i64.wrap ((x : Int) - szR ((numsF x).getD a 0)) = (x : Int) - szR ((numsF x).getD a 0) := w64 (by omega) (by omega)
        have w2 : IntKind.i64.wrap ((x : Int) - szR ((numsF x).getD a 0) - szR ((numsF x).getD b 0)) = (x : Int) - szR ((numsF x).getD a 0) - szR ((numsF x).getD b 0) := w64 (by omega) (by omega)
        have w3 : IntKind.i64.wrap ((x : Int) - szR ((numsF x).getD a 0) - szR ((numsF x).getD b 0) - szR ((numsF x).getD c 0)) = (x : Int) - szR ((numsF x).getD a 0) - szR ((numsF x).getD b 0) - szR ((numsF x).getD c 0) := w64 (by omega) (by omega)
        simp only [hcx, decide_true, cond_true, w1, w2, w3, wc, hl]
        unfold rowF at hst
        generalize hL : (x : Int) - szR ((numsF x).getD a 0) - szR ((numsF x).getD b 0) - szR ((numsF x).getD c 0) = L at *
        refine ⟨by simp [ha2, hb2, hc2], ?_⟩
        by_cases l0 : L < 0
        · rw [if_pos l0, List.append_nil] at hst
          simp only [l0, decide_true, cond_true]
          exact ⟨c + 1, ⟨by rw [hst], rfl, by rw [hst]⟩, by omega, by omega⟩
        · rw [if_neg l0] at hst
          simp only [l0, decide_false, cond_false]
          refine ⟨by simp [ha2, hb2, hc2]; omega, ?_⟩
          by_cases l1 : 0 < L
          · rw [if_pos l1] at hst
            have wL : IntKind.i64.wrap (0 - L) = -L := by rw [w64 (by omega) (by omega)]; omega
            simp only [l1, decide_true, cond_true, wL]
            refine ⟨by simp [ha2, hb2, hc2]; omega, c + 1, ⟨by rw [hst]; simp, rfl, by rw [hst]; simp⟩, by omega, by omega⟩
          · rw [if_neg l1] at hst
            simp only [l1, decide_false, cond_false]
            refine ⟨c + 1, ⟨by rw [hst]; simp, rfl, by rw [hst]; simp⟩, by omega, by omega⟩
      · have : c = 2 * x + 1 := by omega
        subst this
        simp only [hcx, decide_false, cond_false]
        exact ⟨b + 1, ⟨by rw [stC_all hb2], rfl, by rw [stC_all hb2]⟩, by omega, by omega⟩
    · have : b = 2 * x + 1 := by omega
      subst this
      simp only [hbx, decide_false, cond_false]
      exact ⟨a + 1, ⟨by rw [stB_all ha2], rfl, by rw [stB_all ha2]⟩, by omega, by omega⟩
  · have : a = 2 * x + 1 := by omega
    subst this
    simp only [hax, decide_false, cond_false]
    exact ⟨rfl, rfl⟩
end Go.SL.A

/- Functions do what they are held to do. -/
namespace Go.SL.A
open Go Go.SL Go.SL.S
theorem snd47 : Sound Go.Proofs.Tryd.prog G47 := snd49v.add ⟨_, Go.Proofs.Tryd.func57, by kernel_rfl, by kernel_rfl⟩ (by
  intro args ins out h hp
  unfold sp47 at h
  split at h
  · rename_i k
    cases h
    exact vcFun_ok (C := C47) good snd49v Meth.none mix Go.Proofs.Tryd.func57 (ann47 k) (fun hw => by rw [← vc47 k]; exact pure47 k hp)
  · cases h)

end Go.SL.A

/- The document's vectors of four are those of the code, in order. -/
namespace Go.SL.A
open Go Go.SL Go.SL.S

/-- All vectors of n numbers with K pulses, in order. -/
def allV : Nat → Nat → List (List Int)
  | 0, K => if K = 0 then [[]] else []
  | n + 1, K => (numsF K).flatMap fun z => (allV n (K - (sz13 z).toNat)).map (z :: ·)

def allW (n : Nat) (L : Int) : List (List Int) := if L < 0 then [] else allV n L.toNat

theorem nums_sz {K : Nat} (hK : K ≤ 12) {z : Int} (h : z ∈ numsF K) : szR z = sz13 z ∧ 0 ≤ sz13 z ∧ sz13 z ≤ K := by
  have h1 := szR_nums hK h
  have h2 := mem_numsF.1 h
  have h3 := sz13_small (z := z) (by omega) (by omega)
  rw [h3]; omega

theorem flat_nil {α β : Type} {f : α → List β} : ∀ {l : List α}, (∀ x ∈ l, f x = []) → l.flatMap f = []
  | [], _ => rfl
  | x :: l, h => by rw [List.flatMap_cons, h x (by simp), flat_nil fun y hy => h y (by simp [hy])]; rfl

theorem flat_congr {α β : Type} {f g : α → List β} : ∀ {l : List α}, (∀ x ∈ l, f x = g x) → l.flatMap f = l.flatMap g
  | [], _ => rfl
  | x :: l, h => by rw [List.flatMap_cons, List.flatMap_cons, h x (by simp), flat_congr fun y hy => h y (by simp [hy])]

theorem flat_cut {β : Type} {f : Int → List β} {L : Nat} : ∀ (d : Nat), (∀ z, ((L : Int) < z ∨ z < -(L : Int)) → f z = []) → (numsF (L + d)).flatMap f = (numsF L).flatMap f
  | 0, _ => rfl
  | d + 1, h => by
    rw [← Nat.add_assoc, numsF, List.flatMap_append, flat_cut d h, flat_nil (l := [_, _])]
    · simp
    · intro z hz
      simp only [List.mem_cons, List.not_mem_nil, or_false] at hz
      exact h z (by omega)

theorem allW_succ {n K : Nat} (hK : K ≤ 12) {L : Int} (hL : L ≤ K) : (numsF K).flatMap (fun z => (allW n (L - szR z)).map (z :: ·)) = allW (n + 1) L := by
  by_cases h0 : L < 0
  · rw [allW, if_pos h0]
    refine flat_nil fun z hz => ?_
    have := nums_sz hK hz
    rw [allW, if_pos (by omega)]; rfl
  · obtain ⟨M, rfl⟩ : ∃ M : Nat, L = M := ⟨L.toNat, by omega⟩
    rw [allW, if_neg h0, Int.toNat_natCast, allV]
    have e : (numsF K).flatMap (fun z => (allW n ((M : Int) - szR z)).map (z :: ·)) = (numsF K).flatMap (fun z => if sz13 z ≤ M then (allV n (M - (sz13 z).toNat)).map (z :: ·) else []) := by
      refine flat_congr fun z hz => ?_
      obtain ⟨z1, z2, z3⟩ := nums_sz hK hz
      rw [z1, allW]
      by_cases hz2 : sz13 z ≤ M
      · rw [if_neg (by omega), if_pos hz2, show ((M : Int) - sz13 z).toNat = M - (sz13 z).toNat by omega]
      · rw [if_pos (by omega), if_neg hz2]; rfl
    rw [e, show K = M + (K - M) by omega, flat_cut]
    · refine flat_congr fun z hz => ?_
      obtain ⟨z1, z2, z3⟩ := nums_sz (by omega) hz
      rw [if_pos z3]
    · intro z hz
      rw [if_neg]
      unfold sz13
      split <;> omega

theorem allV_one : ∀ L : Nat, L ≤ 12 → allV 1 L = if 0 < L then [[(L : Int)], [-(L : Int)]] else [[(L : Int)]]
  | 0, _ => by decide
  | L + 1, h => by
    rw [allV, numsF, List.flatMap_append, flat_nil (l := numsF L), if_pos (by omega)]
    · have e1 : sz13 ((L + 1 : Nat) : Int) = ((L + 1 : Nat) : Int) := by rw [sz13_small (by omega) (by omega)]; omega
      have e2 : sz13 (-((L + 1 : Nat) : Int)) = ((L + 1 : Nat) : Int) := by rw [sz13_small (by omega) (by omega)]; omega
      simp only [List.flatMap_cons, List.flatMap_nil, e1, e2, Int.toNat_natCast, Nat.sub_self, allV, if_true, List.map_cons, List.map_nil, List.append_nil, List.nil_append, List.singleton_append]
    · intro z hz
      obtain ⟨z1, z2, z3⟩ := nums_sz (by omega) hz
      rw [allV, if_neg (by omega)]; rfl

theorem row_eq {K : Nat} (hK : K ≤ 12) {x y z : Int} (hx : x ∈ numsF K) (hy : y ∈ numsF K) (hz : z ∈ numsF K) : rowF K x y z = (allW 1 ((K : Int) - szR x - szR y - szR z)).map (fun v => x :: y :: z :: v) := by
  have h1 := szR_nums hK hx
  have h2 := szR_nums hK hy
  have h3 := szR_nums hK hz
  unfold rowF allW
  generalize hL : (K : Int) - szR x - szR y - szR z = L
  by_cases h0 : L < 0
  · rw [if_pos h0, if_pos h0]; rfl
  · rw [if_neg h0, if_neg h0, allV_one _ (by omega)]
    by_cases h4 : 0 < L
    · rw [if_pos h4, if_pos (by omega), show ((L.toNat : Nat) : Int) = L by omega]; rfl
    · rw [if_neg h4, if_neg (by omega), show ((L.toNat : Nat) : Int) = L by omega]; rfl

theorem all_eq {K : Nat} (hK : K ≤ 12) : allF K = allV 4 K := by
  have hl := numsF_len K
  have r2 : ∀ x ∈ numsF K, ∀ y ∈ numsF K, rows2 K (numsF K) x y = (allW 2 ((K : Int) - szR x - szR y)).map (fun v => x :: y :: v) := fun x hx y hy => by
    have h1 := szR_nums hK hx
    have h2 := szR_nums hK hy
    rw [← allW_succ (n := 1) hK (L := (K : Int) - szR x - szR y) (by omega), List.map_flatMap]
    unfold rows2
    refine flat_congr fun z hz => ?_
    rw [row_eq hK hx hy hz, List.map_map]; rfl
  have r1 : ∀ x ∈ numsF K, rows1 K (numsF K) x = (allW 3 ((K : Int) - szR x)).map (fun v => x :: v) := fun x hx => by
    have h1 := szR_nums hK hx
    rw [← allW_succ (n := 2) hK (L := (K : Int) - szR x) (by omega), List.map_flatMap]
    unfold rows1
    refine flat_congr fun y hy => ?_
    rw [r2 x hx y hy, List.map_map]; rfl
  have e : allW 4 (K : Int) = allV 4 K := by unfold allW; rw [if_neg (by omega), Int.toNat_natCast]
  rw [← e, ← allW_succ (n := 3) hK (L := (K : Int)) (by omega)]
  unfold allF stA
  rw [List.take_of_length_le (by omega)]
  exact flat_congr fun x hx => r1 x hx

theorem flat_at {α β : Type} {f : α → List β} {d : β} {e : α} : ∀ {l : List α} {p j : Nat}, p < l.length → j < (f (l.getD p e)).length → (l.flatMap f).getD (((l.take p).flatMap f).length + j) d = (f (l.getD p e)).getD j d
  | [], p, j, h, _ => by simp at h
  | x :: l, 0, j, h, hj => by
    have hj : j < (f x).length := hj
    rw [List.take_zero, List.flatMap_nil, List.length_nil, Nat.zero_add, List.flatMap_cons, List.getD_eq_getElem?_getD, List.getElem?_append_left hj, ← List.getD_eq_getElem?_getD]; rfl
  | x :: l, p + 1, j, h, hj => by
    have hj : j < (f (l.getD p e)).length := hj
    have := flat_at (d := d) (l := l) (p := p) (by simpa using h) hj
    rw [List.take_succ_cons, List.flatMap_cons, List.flatMap_cons, List.length_append, List.getD_eq_getElem?_getD, List.getElem?_append_right (by omega), ← List.getD_eq_getElem?_getD,
      show (f x).length + ((l.take p).flatMap f).length + j - (f x).length = ((l.take p).flatMap f).length + j by omega, this]; rfl

theorem allV_len : ∀ {n K : Nat}, K ≤ 12 → ((allV n K).length : Int) = cnt n K
  | 0, K, _ => by
    cases K <;> rfl
  | n + 1, K, hK => by
    rw [← sumBy_all hK, allV]
    have : ∀ l : List Int, ((l.flatMap fun z => (allV n (K - (sz13 z).toNat)).map (z :: ·)).length : Int) = sumBy n K l := by
      intro l
      induction l with
      | nil => rfl
      | cons z l ih =>
        rw [List.flatMap_cons, List.length_append, List.length_map, sumBy, ← ih, ← allV_len (n := n) (K := K - (sz13 z).toNat) (by omega)]; simp
    exact this _

theorem flatV_len {n K : Nat} (hK : K ≤ 12) (l : List Int) : ((l.flatMap fun z => (allV n (K - (sz13 z).toNat)).map (z :: ·)).length : Int) = sumBy n K l := by
  induction l with
  | nil => rfl
  | cons z l ih => rw [List.flatMap_cons, List.length_append, List.length_map, sumBy, ← ih, ← allV_len (n := n) (K := K - (sz13 z).toNat) (by omega)]; simp

theorem allV_get : ∀ {n K : Nat} {i : Int}, K ≤ 12 → 0 ≤ i → i < cnt n K → ∀ d, (allV n K).getD i.toNat d = (vst n K i n).2.2
  | 0, K, i, hK, h0, h1, d => by
    cases K with
    | zero =>
      have : i = 0 := by simp [cnt, cnt0] at h1; omega
      subst this; rfl
    | succ K => simp [cnt, cnt0] at h1; omega
  | n + 1, K, i, hK, h0, h1, d => by
    rw [← sumBy_all hK] at h1
    obtain ⟨p, p1, p2, p3, p4⟩ := pick_spec n K (numsF K) i 0 h0 h1
    have hl := numsF_len K
    have hm := getD_mem (d := 0) p1
    have hz := sz13_in hK hm
    have hs := sumBy_take_succ n K p1
    have hf := flatV_len (n := n) hK ((numsF K).take p)
    have hlen := allV_len (n := n) (K := K - (sz13 ((numsF K).getD p 0)).toNat) (by omega)
    have hfirst := vst_first (n := n) (k := (K : Int)) (i := i) (by omega) (by omega) (p := p) (by rw [Int.toNat_natCast]; omega) (by rw [Int.toNat_natCast]; omega) (by rw [Int.toNat_natCast]; omega)
    rw [Int.toNat_natCast] at hfirst
    have hat := flat_at (f := fun z => (allV n (K - (sz13 z).toNat)).map (z :: ·)) (d := d) (e := 0) (l := numsF K) (p := p) (j := (i - sumBy n K ((numsF K).take p)).toNat) p1 (by rw [List.length_map]; omega)
    rw [allV, show i.toNat = ((((numsF K).take p).flatMap fun z => (allV n (K - (sz13 z).toNat)).map (z :: ·)).length + (i - sumBy n K ((numsF K).take p)).toNat) by omega, hat, hfirst]
    generalize (numsF K).getD p 0 = z at *
    have ih := allV_get (n := n) (K := K - (sz13 z).toNat) (i := i - sumBy n K ((numsF K).take p)) (by omega) p3 p4 []
    have e : (K : Int) - sz13 z = ((K - (sz13 z).toNat : Nat) : Int) := by omega
    rw [e, ← ih]
    have hj : (i - sumBy n K ((numsF K).take p)).toNat < (allV n (K - (sz13 z).toNat)).length := by omega
    simp [List.getD_eq_getElem?_getD, hj]

end Go.SL.A
