/- Part 6 of what the statements of this seat need: a logic of states for the code of the model, the functions that they reach, and what these are held to do: no condition. -/
import Derived.Test.YteahjgigkbkcdaaRows
import Derived.JoinedOf
import Derived.KernelRfl
import Derived.ProofKit
import Derived.Test.YteahjgigkbkcdaaS05
import Derived.Test.YteahjgigkbkcdaaS04
import Derived.Test.YteahjgigkbkcdaaS03

/- Functions and what they are held to do: bound to their code. -/
namespace Go.SL.A
open Go Go.SL Go.SL.S
set_option maxRecDepth 100000
noncomputable def Cq61 : Ctx := ⟨Go.Proofs.Try.prog, D, G83, (fun _ _ => none), fun _ => []⟩
def annq61 (_x : Int) : Nat → St → Option Ann := fun _ _ => none
def outq61 (x : Int) : COut := ⟨[-1000 ≤ x ∧ x ≤ 1000], .v (.int .i64) (rankI x), [], []⟩
def spq61 : Spec := fun args ins => match args, ins with
  | [⟨.int .i64, x⟩], [] => some (outq61 x)
  | _, _ => none
def Gq61 := addG G83 61 spq61
def Pq61 (x : Int) : Prop :=
  bif decide ((0 : Int) < x) then IntKind.wrap IntKind.i64 (IntKind.wrap IntKind.i64 ((2 : Int) * x) - (1 : Int)) = rankI x else IntKind.wrap IntKind.i64 ((-2 : Int) * x) = rankI x
theorem vcq61 (x : Int) : Pq61 x = vcFun Cq61 (annq61 x) Go.Proofs.Try.f61 [⟨.int .i64, x⟩] [] (outq61 x) := by kernel_rfl

noncomputable def Cq30 : Ctx := ⟨Go.Proofs.Try.prog, D, Gq61, (fun _ _ => none), fun _ => []⟩
def annq30 (x n : Int) : Nat → St → Option Ann := fun _ _ => some ⟨Nat, [1, 5], [], fun j => [(0, .v (.int .i64) (x / 2 ^ j)), (6, .v (.int .i64) (n - 1 - (j : Int)))], fun j => [(0, some ⟨false, false, .int .i64, List.replicate (n.toNat - j) 0 ++ (bitsN x n.toNat).drop (n.toNat - j)⟩)], fun j => j ≤ n.toNat, fun j => n.toNat - j⟩
def outq30 (x n : Int) : COut := ⟨[0 ≤ x, 0 ≤ n ∧ n ≤ 100], .v (.ref .slice) (.slice 0 (.int .i64) [] 0 n.toNat), [], [⟨false, false, .int .i64, bitsN x n.toNat⟩]⟩
def spq30 : Spec := fun args ins => match args, ins with
  | [⟨.int .i64, x⟩, ⟨.int .i64, n⟩], [] => some (outq30 x n)
  | _, _ => none
def Gq30 := addG Gq61 30 spq30
def Pq30 (x n : Int) : Prop :=
  ((0 : Int) ≤ n ∧ n = n ∧ n * (↑(8 : Nat) : Int) ≤ (↑(70368744177664 : Nat) : Int) ∧ n ≤ (↑(70368744177664 : Nat) : Int)) ∧ ∃ (x_1 : Nat), ((x = x / (2 : Int) ^ x_1 ∧ n = n ∧ (0 : Nat) = (0 : Nat) ∧ Int.toNat n = Int.toNat
  n ∧ IntKind.wrap IntKind.i64 (n - (1 : Int)) = n - (1 : Int) - (↑x_1 : Int) ∧ List.replicate (Int.toNat n) (0 : Int) = List.replicate (Int.toNat n - x_1) (0 : Int) ++ List.drop (Int.toNat n - x_1) (bitsN x (Int.toNat n))
  ∧ false = false) ∧ x_1 ≤ Int.toNat n) ∧ ∀ (x_2 : Nat), x_2 ≤ Int.toNat n → (IntKind.min IntKind.i64 ≤ x / (2 : Int) ^ x_2 ∧ x / (2 : Int) ^ x_2 ≤ IntKind.max IntKind.i64 ∧ IntKind.min IntKind.i64 ≤ n - (1 : Int) - (↑x_2 :
  Int) ∧ n - (1 : Int) - (↑x_2 : Int) ≤ IntKind.max IntKind.i64 ∧ ∀ (y : Int), List.Mem y (List.replicate (Int.toNat n - x_2) (0 : Int) ++ List.drop (Int.toNat n - x_2) (bitsN x (Int.toNat n))) → IntKind.min IntKind.i64 ≤ y
  ∧ y ≤ IntKind.max IntKind.i64) → bif decide ((0 : Int) ≤ n - (1 : Int) - (↑x_2 : Int)) then ((2 : Int) ≠ (0 : Int) ∧ ((0 : Int) ≤ n - (1 : Int) - (↑x_2 : Int) ∧ n - (1 : Int) - (↑x_2 : Int) < (↑(Int.toNat n) : Int)) ∧ (0
  : Nat) + Int.toNat (n - (1 : Int) - (↑x_2 : Int)) < List.length (List.replicate (Int.toNat n - x_2) (0 : Int) ++ List.drop (Int.toNat n - x_2) (bitsN x (Int.toNat n)))) ∧ (2 : Int) ≠ (0 : Int) ∧ ∃ (y : Nat), (IntKind.wrap
  IntKind.i64 (Int.tdiv (x / (2 : Int) ^ x_2) (2 : Int)) = x / (2 : Int) ^ y ∧ n = n ∧ (0 : Nat) = (0 : Nat) ∧ Int.toNat n = Int.toNat n ∧ IntKind.wrap IntKind.i64 (n - (1 : Int) - (↑x_2 : Int) - (1 : Int)) = n - (1 : Int)
  - (↑y : Int) ∧ List.set (List.replicate (Int.toNat n - x_2) (0 : Int) ++ List.drop (Int.toNat n - x_2) (bitsN x (Int.toNat n))) ((0 : Nat) + Int.toNat (n - (1 : Int) - (↑x_2 : Int))) (Int.tmod (x / (2 : Int) ^ x_2) (2 :
  Int)) = List.replicate (Int.toNat n - y) (0 : Int) ++ List.drop (Int.toNat n - y) (bitsN x (Int.toNat n)) ∧ false = false) ∧ y ≤ Int.toNat n ∧ Int.toNat n - y < Int.toNat n - x_2 else (0 : Nat) = (0 : Nat) ∧ Int.toNat n =
  Int.toNat n ∧ List.append (List.replicate (Int.toNat n - x_2) (0 : Int)) (List.drop (Int.toNat n - x_2) (bitsN x (Int.toNat n))) = bitsN x (Int.toNat n) ∧ false = false
theorem vcq30 (x n : Int) : Pq30 x n = vcFun Cq30 (annq30 x n) Go.Proofs.Try.f30 [⟨.int .i64, x⟩, ⟨.int .i64, n⟩] [] (outq30 x n) := by kernel_rfl

noncomputable def Cq33 : Ctx := ⟨Go.Proofs.Try.prog, D, Gq30, (fun _ _ => none), fun _ => []⟩
def annq33 (_r : Bool) (_n : Nat) (l : List Int) : Nat → St → Option Ann := fun id S => match id with | 0 => some ⟨Nat, [0], [0], fun a => [(4, .v (.int .i64) (8 * (a : Int))), (3, .v (.ref .slice) (.slice 1 (.int .u8) [] 0 a))], fun a => [(1, some ⟨false, false, .int .u8, (packB l).take a⟩)], fun a => a ≤ (l.length + 7) / 8, fun a => (l.length + 7) / 8 - a⟩ | _ => some ⟨Nat, [0, 3, 4], [0, 1], fun k => [(6, .v (.int .i64) (k : Int)), (5, .v (.int .i64) (byteTo l ((S.i 4).toNat / 8) k))], fun _ => [], fun k => k ≤ 8, fun k => 8 - k⟩
def outq33 (_r : Bool) (n : Nat) (l : List Int) : COut := ⟨[n = l.length, Bit l, l.length ≤ 100000], .v .str (bytesOf (packB l)), [], []⟩
def spq33 : Spec := fun args ins => match args, ins with
  | [⟨.ref .slice, .slice 0 (.int .i64) [] 0 n⟩], [⟨r, false, .int .i64, l⟩] => some (outq33 r n l)
  | _, _ => none
def Gq33 := addG Gq30 33 spq33
def Pq33 (r : Bool) (n : Nat) (l : List Int) : Prop :=
  ∃ (x : Nat), (((0 : Nat) = (0 : Nat) ∧ n = n ∧ x = (0 : Nat) ∧ (0 : Int) = (8 : Int) * (↑x : Int) ∧ l = l ∧ r = r ∧ List.take x (packB l) = []) ∧ x ≤ (List.length l + (7 : Nat)) / (8 : Nat)) ∧ ∀ (x : Nat), x ≤
  (List.length l + (7 : Nat)) / (8 : Nat) → (IntKind.min IntKind.i64 ≤ (8 : Int) * (↑x : Int) ∧ (8 : Int) * (↑x : Int) ≤ IntKind.max IntKind.i64 ∧ ∀ (y : Int), List.Mem y (List.take x (packB l)) → IntKind.min IntKind.u8 ≤ y
  ∧ y ≤ IntKind.max IntKind.u8) → bif decide ((8 : Int) * (↑x : Int) < (↑n : Int)) then ∃ (x_1 : Nat), (((0 : Nat) = (0 : Nat) ∧ n = n ∧ (0 : Nat) = (0 : Nat) ∧ x = x ∧ (8 : Int) * (↑x : Int) = (8 : Int) * (↑x : Int) ∧ (0 :
  Int) = byteTo l (Int.toNat ((8 : Int) * (↑x : Int)) / (8 : Nat)) x_1 ∧ (0 : Int) = (↑x_1 : Int) ∧ l = l ∧ r = r ∧ List.take x (packB l) = List.take x (packB l) ∧ false = false) ∧ x_1 ≤ (8 : Nat)) ∧ ∀ (x_2 : Nat), x_2 ≤ (8
  : Nat) → IntKind.min IntKind.i64 ≤ (↑x_2 : Int) ∧ (↑x_2 : Int) ≤ IntKind.max IntKind.i64 ∧ IntKind.min IntKind.i64 ≤ byteTo l (Int.toNat ((8 : Int) * (↑x : Int)) / (8 : Nat)) x_2 ∧ byteTo l (Int.toNat ((8 : Int) * (↑x :
  Int)) / (8 : Nat)) x_2 ≤ IntKind.max IntKind.i64 → bif decide ((↑x_2 : Int) < (8 : Int)) then bif decide (IntKind.wrap IntKind.i64 ((8 : Int) * (↑x : Int) + (↑x_2 : Int)) < (↑n : Int)) then (((0 : Int) ≤ IntKind.wrap
  IntKind.i64 ((8 : Int) * (↑x : Int) + (↑x_2 : Int)) ∧ IntKind.wrap IntKind.i64 ((8 : Int) * (↑x : Int) + (↑x_2 : Int)) < (↑n : Int)) ∧ (0 : Nat) + Int.toNat (IntKind.wrap IntKind.i64 ((8 : Int) * (↑x : Int) + (↑x_2 :
  Int))) < List.length l) ∧ ∃ (y : Nat), ((0 : Nat) = (0 : Nat) ∧ n = n ∧ (0 : Nat) = (0 : Nat) ∧ x = x ∧ (8 : Int) * (↑x : Int) = (8 : Int) * (↑x : Int) ∧ IntKind.wrap IntKind.i64 (IntKind.wrap IntKind.i64 ((2 : Int) *
  byteTo l (Int.toNat ((8 : Int) * (↑x : Int)) / (8 : Nat)) x_2) + List.getD l ((0 : Nat) + Int.toNat (IntKind.wrap IntKind.i64 ((8 : Int) * (↑x : Int) + (↑x_2 : Int)))) (0 : Int)) = byteTo l (Int.toNat ((8 : Int) * (↑x :
  Int)) / (8 : Nat)) y ∧ IntKind.wrap IntKind.i64 ((↑x_2 : Int) + (1 : Int)) = (↑y : Int) ∧ l = l ∧ r = r ∧ List.take x (packB l) = List.take x (packB l) ∧ false = false) ∧ y ≤ (8 : Nat) ∧ (8 : Nat) - y < (8 : Nat) - x_2
  else ∃ (y : Nat), ((0 : Nat) = (0 : Nat) ∧ n = n ∧ (0 : Nat) = (0 : Nat) ∧ x = x ∧ (8 : Int) * (↑x : Int) = (8 : Int) * (↑x : Int) ∧ IntKind.wrap IntKind.i64 ((2 : Int) * byteTo l (Int.toNat ((8 : Int) * (↑x : Int)) / (8
  : Nat)) x_2) = byteTo l (Int.toNat ((8 : Int) * (↑x : Int)) / (8 : Nat)) y ∧ IntKind.wrap IntKind.i64 ((↑x_2 : Int) + (1 : Int)) = (↑y : Int) ∧ l = l ∧ r = r ∧ List.take x (packB l) = List.take x (packB l) ∧ false =
  false) ∧ y ≤ (8 : Nat) ∧ (8 : Nat) - y < (8 : Nat) - x_2 else ((1 : Nat) ≤ (1 : Nat) ∧ (0 : Nat) + x = List.length (List.take x (packB l)) ∧ (x + List.length (seg (IntKind.wrap IntKind.u8 (byteTo l (Int.toNat ((8 : Int) *
  (↑x : Int)) / (8 : Nat)) x_2) :: List.replicate (nat_lit 0) (0 : Int)) (0 : Nat) (1 : Nat))) * (1 : Nat) ≤ (70368744177664 : Nat)) ∧ ∃ (y : Nat), ((0 : Nat) = (0 : Nat) ∧ n = n ∧ (0 : Nat) = (0 : Nat) ∧ x + List.length
  (seg (IntKind.wrap IntKind.u8 (byteTo l (Int.toNat ((8 : Int) * (↑x : Int)) / (8 : Nat)) x_2) :: List.replicate (nat_lit 0) (0 : Int)) (0 : Nat) (1 : Nat)) = y ∧ IntKind.wrap IntKind.i64 ((8 : Int) * (↑x : Int) + (8 :
  Int)) = (8 : Int) * (↑y : Int) ∧ l = l ∧ r = r ∧ List.append (List.drop (0 : Nat) (List.take x (packB l))) (seg (IntKind.wrap IntKind.u8 (byteTo l (Int.toNat ((8 : Int) * (↑x : Int)) / (8 : Nat)) x_2) :: List.replicate
  (nat_lit 0) (0 : Int)) (0 : Nat) (1 : Nat)) = List.take y (packB l) ∧ false = false) ∧ y ≤ (List.length l + (7 : Nat)) / (8 : Nat) ∧ (List.length l + (7 : Nat)) / (8 : Nat) - y < (List.length l + (7 : Nat)) / (8 : Nat) -
  x else (0 : Nat) + x ≤ List.length (List.take x (packB l)) ∧ bytesOf (seg (List.take x (packB l)) (0 : Nat) x) = bytesOf (packB l) ∧ l = l ∧ r = r
theorem vcq33 (r : Bool) (n : Nat) (l : List Int) : Pq33 r n l = vcFun Cq33 (annq33 r n l) Go.Proofs.Try.f33 [⟨.ref .slice, .slice 0 (.int .i64) [] 0 n⟩] [⟨r, false, .int .i64, l⟩] (outq33 r n l) := by kernel_rfl

noncomputable def Cq16 : Ctx := ⟨Go.Proofs.Try.prog, D, Gq33, (fun _ _ => none), fun _ => []⟩
def annq16 (r : Int) (s : ByteArray) : Nat → St → Option Ann := fun id S => match id with | 0 => some ⟨Nat, [0, 1], [], fun i => [(6, .v (.int .i64) (i : Int)), (5, .v (.ref .slice) (.slice 0 (.int .i64) [] 0 (bitsTo s i 0).length))], fun i => [(0, some ⟨false, false, .int .i64, bitsTo s i 0⟩)], fun i => i ≤ ByteArray.size s, fun i => ByteArray.size s - i⟩ | 2 => some ⟨Nat, [0, 1, 6], [], fun k => [(7, .v (.int .i64) (128 / 2 ^ k)), (5, .v (.ref .slice) (.slice 1 (.int .i64) [] 0 (bitsTo s (S.i 6).toNat k).length))], fun k => [(1, some ⟨false, false, .int .i64, bitsTo s (S.i 6).toNat k⟩)], fun k => k ≤ 8, fun k => 8 - k⟩ | 4 => some ⟨Nat, [0, 1], [], fun i => [(8, .v (.int .i64) (i : Int)), (5, .v (.ref .slice) (.slice 1 (.int .i64) [] 0 (8 * ByteArray.size s + i)))], fun i => [(1, some ⟨false, false, .int .i64, unB (ofBytes s) ++ List.replicate i 0⟩)], fun i => i ≤ 16, fun i => 16 - i⟩ | 6 => some ⟨Nat, [0, 1, 5], [], fun i => [(9, .v (.int .i64) (i : Int))], fun i => [(1, some ⟨false, false, .int .i64, regI r (dataI (ofBytes s)) i⟩)], fun i => i ≤ 16, fun i => 16 - i⟩ | 8 => some ⟨Nat, [0, 1, 5, 9], [1], fun k => [(11, .v (.int .i64) (k : Int)), (10, .v (.int .i64) (32768 / 2 ^ k))], fun _ => [], fun k => k ≤ (S.i 9).toNat, fun k => (S.i 9).toNat - k⟩ | 10 => some ⟨Nat, [0, 1, 5], [], fun i => [(12, .v (.int .i64) (i : Int))], fun i => [(1, some ⟨false, false, .int .i64, divsI (regI r (dataI (ofBytes s)) 16) i⟩)], fun i => i ≤ 8 * ByteArray.size s, fun i => 8 * ByteArray.size s - i⟩ | _ => some ⟨Nat, [5], [1], fun k => [(14, .v (.int .i64) (8 * (ByteArray.size s : Int) + (k : Int))), (13, .v (.int .i64) (numTo19 (divsI (regI r (dataI (ofBytes s)) 16) (8 * ByteArray.size s)) (8 * ByteArray.size s) k))], fun _ => [], fun k => k ≤ 16, fun k => 16 - k⟩
def outq16 (r : Int) (s : ByteArray) : COut := ⟨[0 ≤ r ∧ r < 65536, ByteArray.size s ≤ 1000], .v (.int .i64) (sumI r (ofBytes s)), [], []⟩
def spq16 : Spec := fun args ins => match args, ins with
  | [⟨.int .i64, r⟩, ⟨.str, s⟩], [] => some (outq16 r s)
  | _, _ => none
def Gq16 := addG Gq33 16 spq16
def Pq16 (r : Int) (s : ByteArray) : Prop :=
  (65536 : Int) ≠ (0 : Int) ∧ bif decide (Int.tmod r (65536 : Int) < (0 : Int)) then ∃ (x : Nat), ((IntKind.wrap IntKind.i64 (Int.tmod r (65536 : Int) + (65536 : Int)) = IntKind.wrap IntKind.i64 (Int.tmod r (65536 : Int) +
  (65536 : Int)) ∧ s = s ∧ List.length (bitsTo s x (0 : Nat)) = (0 : Nat) ∧ (0 : Int) = (↑x : Int) ∧ bitsTo s x (0 : Nat) = []) ∧ x ≤ ByteArray.size s) ∧ ∀ (x : Nat), x ≤ ByteArray.size s → (IntKind.min IntKind.i64 ≤ (↑x :
  Int) ∧ (↑x : Int) ≤ IntKind.max IntKind.i64 ∧ ∀ (y : Int), List.Mem y (bitsTo s x (0 : Nat)) → IntKind.min IntKind.i64 ≤ y ∧ y ≤ IntKind.max IntKind.i64) → bif decide ((↑x : Int) < (↑(ByteArray.size s) : Int)) then ∃ (x_1
  : Nat), ((IntKind.wrap IntKind.i64 (Int.tmod r (65536 : Int) + (65536 : Int)) = IntKind.wrap IntKind.i64 (Int.tmod r (65536 : Int) + (65536 : Int)) ∧ s = s ∧ (0 : Nat) = (0 : Nat) ∧ List.length (bitsTo s x (0 : Nat)) =
  List.length (bitsTo s (Int.toNat (↑x : Int)) x_1) ∧ (↑x : Int) = (↑x : Int) ∧ (128 : Int) = (128 : Int) / (2 : Int) ^ x_1 ∧ bitsTo s x (0 : Nat) = bitsTo s (Int.toNat (↑x : Int)) x_1 ∧ false = false) ∧ x_1 ≤ (8 : Nat)) ∧
  ∀ (x_2 : Nat), x_2 ≤ (8 : Nat) → (IntKind.min IntKind.i64 ≤ (128 : Int) / (2 : Int) ^ x_2 ∧ (128 : Int) / (2 : Int) ^ x_2 ≤ IntKind.max IntKind.i64 ∧ ∀ (y : Int), List.Mem y (bitsTo s (Int.toNat (↑x : Int)) x_2) →
  IntKind.min IntKind.i64 ≤ y ∧ y ≤ IntKind.max IntKind.i64) → bif decide ((1 : Int) ≤ (128 : Int) / (2 : Int) ^ x_2) then (((0 : Int) ≤ (↑x : Int) ∧ (↑x : Int) < (↑(ByteArray.size s) : Int)) ∧ (128 : Int) / (2 : Int) ^ x_2
  ≠ (0 : Int) ∧ (2 : Int) ≠ (0 : Int) ∧ (1 : Nat) ≤ (1 : Nat) ∧ (0 : Nat) + List.length (bitsTo s (Int.toNat (↑x : Int)) x_2) = List.length (bitsTo s (Int.toNat (↑x : Int)) x_2) ∧ (List.length (bitsTo s (Int.toNat (↑x :
  Int)) x_2) + List.length (seg (Int.tmod (IntKind.wrap IntKind.i64 (Int.tdiv (IntKind.wrap IntKind.i64 (byteAt s (Int.toNat (↑x : Int)))) ((128 : Int) / (2 : Int) ^ x_2))) (2 : Int) :: List.replicate (nat_lit 0) (0 : Int))
  (0 : Nat) (1 : Nat))) * (8 : Nat) ≤ (70368744177664 : Nat)) ∧ (2 : Int) ≠ (0 : Int) ∧ ∃ (y : Nat), (IntKind.wrap IntKind.i64 (Int.tmod r (65536 : Int) + (65536 : Int)) = IntKind.wrap IntKind.i64 (Int.tmod r (65536 : Int)
  + (65536 : Int)) ∧ s = s ∧ (0 : Nat) = (0 : Nat) ∧ List.length (bitsTo s (Int.toNat (↑x : Int)) x_2) + List.length (seg (Int.tmod (IntKind.wrap IntKind.i64 (Int.tdiv (IntKind.wrap IntKind.i64 (byteAt s (Int.toNat (↑x :
  Int)))) ((128 : Int) / (2 : Int) ^ x_2))) (2 : Int) :: List.replicate (nat_lit 0) (0 : Int)) (0 : Nat) (1 : Nat)) = List.length (bitsTo s (Int.toNat (↑x : Int)) y) ∧ (↑x : Int) = (↑x : Int) ∧ IntKind.wrap IntKind.i64
  (Int.tdiv ((128 : Int) / (2 : Int) ^ x_2) (2 : Int)) = (128 : Int) / (2 : Int) ^ y ∧ List.append (List.drop (0 : Nat) (bitsTo s (Int.toNat (↑x : Int)) x_2)) (seg (Int.tmod (IntKind.wrap IntKind.i64 (Int.tdiv (IntKind.wrap
  IntKind.i64 (byteAt s (Int.toNat (↑x : Int)))) ((128 : Int) / (2 : Int) ^ x_2))) (2 : Int) :: List.replicate (nat_lit 0) (0 : Int)) (0 : Nat) (1 : Nat)) = bitsTo s (Int.toNat (↑x : Int)) y ∧ false = false) ∧ y ≤ (8 : Nat)
  ∧ (8 : Nat) - y < (8 : Nat) - x_2 else ∃ (y : Nat), (IntKind.wrap IntKind.i64 (Int.tmod r (65536 : Int) + (65536 : Int)) = IntKind.wrap IntKind.i64 (Int.tmod r (65536 : Int) + (65536 : Int)) ∧ s = s ∧ (0 : Nat) = (0 :
  Nat) ∧ List.length (bitsTo s (Int.toNat (↑x : Int)) x_2) = List.length (bitsTo s y (0 : Nat)) ∧ IntKind.wrap IntKind.i64 ((↑x : Int) + (1 : Int)) = (↑y : Int) ∧ bitsTo s (Int.toNat (↑x : Int)) x_2 = bitsTo s y (0 : Nat) ∧
  false = false) ∧ y ≤ ByteArray.size s ∧ ByteArray.size s - y < ByteArray.size s - x else ∃ (x_1 : Nat), ((IntKind.wrap IntKind.i64 (Int.tmod r (65536 : Int) + (65536 : Int)) = IntKind.wrap IntKind.i64 (Int.tmod r (65536 :
  Int) + (65536 : Int)) ∧ s = s ∧ (0 : Nat) = (0 : Nat) ∧ List.length (bitsTo s x (0 : Nat)) = (8 : Nat) * ByteArray.size s + x_1 ∧ (0 : Int) = (↑x_1 : Int) ∧ bitsTo s x (0 : Nat) = unB (ofBytes s) ++ List.replicate x_1 (0
  : Int) ∧ false = false) ∧ x_1 ≤ (16 : Nat)) ∧ ∀ (x : Nat), x ≤ (16 : Nat) → (IntKind.min IntKind.i64 ≤ (↑x : Int) ∧ (↑x : Int) ≤ IntKind.max IntKind.i64 ∧ ∀ (y : Int), List.Mem y (unB (ofBytes s) ++ List.replicate x (0 :
  Int)) → IntKind.min IntKind.i64 ≤ y ∧ y ≤ IntKind.max IntKind.i64) → bif decide ((↑x : Int) < (16 : Int)) then ((1 : Nat) ≤ (1 : Nat) ∧ (0 : Nat) + ((8 : Nat) * ByteArray.size s + x) = List.length (List.append (unB
  (ofBytes s)) (List.replicate x (0 : Int))) ∧ ((8 : Nat) * ByteArray.size s + x + (1 : Nat)) * (8 : Nat) ≤ (70368744177664 : Nat)) ∧ ∃ (y : Nat), (IntKind.wrap IntKind.i64 (Int.tmod r (65536 : Int) + (65536 : Int)) =
  IntKind.wrap IntKind.i64 (Int.tmod r (65536 : Int) + (65536 : Int)) ∧ s = s ∧ (0 : Nat) = (0 : Nat) ∧ (8 : Nat) * ByteArray.size s + x + (1 : Nat) = (8 : Nat) * ByteArray.size s + y ∧ IntKind.wrap IntKind.i64 ((↑x : Int)
  + (1 : Int)) = (↑y : Int) ∧ List.append (List.drop (0 : Nat) (List.append (unB (ofBytes s)) (List.replicate x (0 : Int)))) (seg ((0 : Int) :: List.replicate (nat_lit 0) (0 : Int)) (0 : Nat) (1 : Nat)) = unB (ofBytes s) ++
  List.replicate y (0 : Int) ∧ false = false) ∧ y ≤ (16 : Nat) ∧ (16 : Nat) - y < (16 : Nat) - x else ∃ (x_2 : Nat), ((IntKind.wrap IntKind.i64 (Int.tmod r (65536 : Int) + (65536 : Int)) = IntKind.wrap IntKind.i64 (Int.tmod
  r (65536 : Int) + (65536 : Int)) ∧ s = s ∧ (0 : Nat) = (0 : Nat) ∧ (8 : Nat) * ByteArray.size s + x = (8 : Nat) * ByteArray.size s + x ∧ (0 : Int) = (↑x_2 : Int) ∧ List.append (unB (ofBytes s)) (List.replicate x (0 :
  Int)) = regI r (dataI (ofBytes s)) x_2 ∧ false = false) ∧ x_2 ≤ (16 : Nat)) ∧ ∀ (x_3 : Nat), x_3 ≤ (16 : Nat) → (IntKind.min IntKind.i64 ≤ (↑x_3 : Int) ∧ (↑x_3 : Int) ≤ IntKind.max IntKind.i64 ∧ ∀ (y : Int), List.Mem y
  (regI r (dataI (ofBytes s)) x_3) → IntKind.min IntKind.i64 ≤ y ∧ y ≤ IntKind.max IntKind.i64) → bif decide ((↑x_3 : Int) < (16 : Int)) then ∃ (x_4 : Nat), ((IntKind.wrap IntKind.i64 (Int.tmod r (65536 : Int) + (65536 :
  Int)) = IntKind.wrap IntKind.i64 (Int.tmod r (65536 : Int) + (65536 : Int)) ∧ s = s ∧ (0 : Nat) = (0 : Nat) ∧ (8 : Nat) * ByteArray.size s + x = (8 : Nat) * ByteArray.size s + x ∧ (↑x_3 : Int) = (↑x_3 : Int) ∧ (32768 :
  Int) = (32768 : Int) / (2 : Int) ^ x_4 ∧ (0 : Int) = (↑x_4 : Int) ∧ regI r (dataI (ofBytes s)) x_3 = regI r (dataI (ofBytes s)) x_3 ∧ false = false) ∧ x_4 ≤ Int.toNat (↑x_3 : Int)) ∧ ∀ (x_5 : Nat), x_5 ≤ Int.toNat (↑x_3 :
  Int) → IntKind.min IntKind.i64 ≤ (↑x_5 : Int) ∧ (↑x_5 : Int) ≤ IntKind.max IntKind.i64 ∧ IntKind.min IntKind.i64 ≤ (32768 : Int) / (2 : Int) ^ x_5 ∧ (32768 : Int) / (2 : Int) ^ x_5 ≤ IntKind.max IntKind.i64 → bif decide
  ((↑x_5 : Int) < (↑x_3 : Int)) then (2 : Int) ≠ (0 : Int) ∧ ∃ (y : Nat), (IntKind.wrap IntKind.i64 (Int.tmod r (65536 : Int) + (65536 : Int)) = IntKind.wrap IntKind.i64 (Int.tmod r (65536 : Int) + (65536 : Int)) ∧ s = s ∧
  (0 : Nat) = (0 : Nat) ∧ (8 : Nat) * ByteArray.size s + x = (8 : Nat) * ByteArray.size s + x ∧ (↑x_3 : Int) = (↑x_3 : Int) ∧ IntKind.wrap IntKind.i64 (Int.tdiv ((32768 : Int) / (2 : Int) ^ x_5) (2 : Int)) = (32768 : Int) /
  (2 : Int) ^ y ∧ IntKind.wrap IntKind.i64 ((↑x_5 : Int) + (1 : Int)) = (↑y : Int) ∧ regI r (dataI (ofBytes s)) x_3 = regI r (dataI (ofBytes s)) x_3 ∧ false = false) ∧ y ≤ Int.toNat (↑x_3 : Int) ∧ Int.toNat (↑x_3 : Int) - y
  < Int.toNat (↑x_3 : Int) - x_5 else (((0 : Int) ≤ (↑x_3 : Int) ∧ (↑x_3 : Int) < (↑((8 : Nat) * ByteArray.size s + x) : Int)) ∧ (0 : Nat) + Int.toNat (↑x_3 : Int) < List.length (regI r (dataI (ofBytes s)) x_3) ∧ (32768 :
  Int) / (2 : Int) ^ x_5 ≠ (0 : Int) ∧ (2 : Int) ≠ (0 : Int) ∧ ((0 : Int) ≤ (↑x_3 : Int) ∧ (↑x_3 : Int) < (↑((8 : Nat) * ByteArray.size s + x) : Int)) ∧ (0 : Nat) + Int.toNat (↑x_3 : Int) < List.length (regI r (dataI
  (ofBytes s)) x_3)) ∧ ∃ (y : Nat), (IntKind.wrap IntKind.i64 (Int.tmod r (65536 : Int) + (65536 : Int)) = IntKind.wrap IntKind.i64 (Int.tmod r (65536 : Int) + (65536 : Int)) ∧ s = s ∧ (0 : Nat) = (0 : Nat) ∧ (8 : Nat) *
  ByteArray.size s + x = (8 : Nat) * ByteArray.size s + x ∧ IntKind.wrap IntKind.i64 ((↑x_3 : Int) + (1 : Int)) = (↑y : Int) ∧ List.set (regI r (dataI (ofBytes s)) x_3) ((0 : Nat) + Int.toNat (↑x_3 : Int)) (Int.tmod
  (IntKind.wrap IntKind.i64 (List.getD (regI r (dataI (ofBytes s)) x_3) ((0 : Nat) + Int.toNat (↑x_3 : Int)) (0 : Int) + IntKind.wrap IntKind.i64 (Int.tdiv (IntKind.wrap IntKind.i64 (Int.tmod r (65536 : Int) + (65536 :
  Int))) ((32768 : Int) / (2 : Int) ^ x_5)))) (2 : Int)) = regI r (dataI (ofBytes s)) y ∧ false = false) ∧ y ≤ (16 : Nat) ∧ (16 : Nat) - y < (16 : Nat) - x_3 else ∃ (x_4 : Nat), ((IntKind.wrap IntKind.i64 (Int.tmod r (65536
  : Int) + (65536 : Int)) = IntKind.wrap IntKind.i64 (Int.tmod r (65536 : Int) + (65536 : Int)) ∧ s = s ∧ (0 : Nat) = (0 : Nat) ∧ (8 : Nat) * ByteArray.size s + x = (8 : Nat) * ByteArray.size s + x ∧ (0 : Int) = (↑x_4 :
  Int) ∧ regI r (dataI (ofBytes s)) x_3 = divsI (regI r (dataI (ofBytes s)) (16 : Nat)) x_4 ∧ false = false) ∧ x_4 ≤ (8 : Nat) * ByteArray.size s) ∧ ∀ (x_5 : Nat), x_5 ≤ (8 : Nat) * ByteArray.size s → (IntKind.min
  IntKind.i64 ≤ (↑x_5 : Int) ∧ (↑x_5 : Int) ≤ IntKind.max IntKind.i64 ∧ ∀ (y : Int), List.Mem y (divsI (regI r (dataI (ofBytes s)) (16 : Nat)) x_5) → IntKind.min IntKind.i64 ≤ y ∧ y ≤ IntKind.max IntKind.i64) → bif decide
  (IntKind.wrap IntKind.i64 ((↑x_5 : Int) + (16 : Int)) < (↑((8 : Nat) * ByteArray.size s + x) : Int)) then (((0 : Int) ≤ (↑x_5 : Int) ∧ (↑x_5 : Int) < (↑((8 : Nat) * ByteArray.size s + x) : Int)) ∧ (0 : Nat) + Int.toNat
  (↑x_5 : Int) < List.length (divsI (regI r (dataI (ofBytes s)) (16 : Nat)) x_5)) ∧ bif decide (List.getD (divsI (regI r (dataI (ofBytes s)) (16 : Nat)) x_5) ((0 : Nat) + Int.toNat (↑x_5 : Int)) (0 : Int) = (1 : Int)) then
  (((0 : Int) ≤ (↑x_5 : Int) ∧ (↑x_5 : Int) < (↑((8 : Nat) * ByteArray.size s + x) : Int)) ∧ (0 : Nat) + Int.toNat (↑x_5 : Int) < List.length (divsI (regI r (dataI (ofBytes s)) (16 : Nat)) x_5)) ∧ (((0 : Int) ≤ IntKind.wrap
  IntKind.i64 ((↑x_5 : Int) + (4 : Int)) ∧ IntKind.wrap IntKind.i64 ((↑x_5 : Int) + (4 : Int)) < (↑((8 : Nat) * ByteArray.size s + x) : Int)) ∧ (0 : Nat) + Int.toNat (IntKind.wrap IntKind.i64 ((↑x_5 : Int) + (4 : Int))) <
  List.length (List.set (divsI (regI r (dataI (ofBytes s)) (16 : Nat)) x_5) ((0 : Nat) + Int.toNat (↑x_5 : Int)) (0 : Int)) ∧ ((0 : Int) ≤ IntKind.wrap IntKind.i64 ((↑x_5 : Int) + (4 : Int)) ∧ IntKind.wrap IntKind.i64
  ((↑x_5 : Int) + (4 : Int)) < (↑((8 : Nat) * ByteArray.size s + x) : Int)) ∧ (0 : Nat) + Int.toNat (IntKind.wrap IntKind.i64 ((↑x_5 : Int) + (4 : Int))) < List.length (List.set (divsI (regI r (dataI (ofBytes s)) (16 :
  Nat)) x_5) ((0 : Nat) + Int.toNat (↑x_5 : Int)) (0 : Int))) ∧ (((0 : Int) ≤ IntKind.wrap IntKind.i64 ((↑x_5 : Int) + (11 : Int)) ∧ IntKind.wrap IntKind.i64 ((↑x_5 : Int) + (11 : Int)) < (↑((8 : Nat) * ByteArray.size s +
  x) : Int)) ∧ (0 : Nat) + Int.toNat (IntKind.wrap IntKind.i64 ((↑x_5 : Int) + (11 : Int))) < List.length (List.set (List.set (divsI (regI r (dataI (ofBytes s)) (16 : Nat)) x_5) ((0 : Nat) + Int.toNat (↑x_5 : Int)) (0 :
  Int)) ((0 : Nat) + Int.toNat (IntKind.wrap IntKind.i64 ((↑x_5 : Int) + (4 : Int)))) (IntKind.wrap IntKind.i64 ((1 : Int) - List.getD (List.set (divsI (regI r (dataI (ofBytes s)) (16 : Nat)) x_5) ((0 : Nat) + Int.toNat
  (↑x_5 : Int)) (0 : Int)) ((0 : Nat) + Int.toNat (IntKind.wrap IntKind.i64 ((↑x_5 : Int) + (4 : Int)))) (0 : Int)))) ∧ ((0 : Int) ≤ IntKind.wrap IntKind.i64 ((↑x_5 : Int) + (11 : Int)) ∧ IntKind.wrap IntKind.i64 ((↑x_5 :
  Int) + (11 : Int)) < (↑((8 : Nat) * ByteArray.size s + x) : Int)) ∧ (0 : Nat) + Int.toNat (IntKind.wrap IntKind.i64 ((↑x_5 : Int) + (11 : Int))) < List.length (List.set (List.set (divsI (regI r (dataI (ofBytes s)) (16 :
  Nat)) x_5) ((0 : Nat) + Int.toNat (↑x_5 : Int)) (0 : Int)) ((0 : Nat) + Int.toNat (IntKind.wrap IntKind.i64 ((↑x_5 : Int) + (4 : Int)))) (IntKind.wrap IntKind.i64 ((1 : Int) - List.getD (List.set (divsI (regI r (dataI
  (ofBytes s)) (16 : Nat)) x_5) ((0 : Nat) + Int.toNat (↑x_5 : Int)) (0 : Int)) ((0 : Nat) + Int.toNat (IntKind.wrap IntKind.i64 ((↑x_5 : Int) + (4 : Int)))) (0 : Int))))) ∧ (((0 : Int) ≤ IntKind.wrap IntKind.i64 ((↑x_5 :
  Int) + (16 : Int)) ∧ IntKind.wrap IntKind.i64 ((↑x_5 : Int) + (16 : Int)) < (↑((8 : Nat) * ByteArray.size s + x) : Int)) ∧ (0 : Nat) + Int.toNat (IntKind.wrap IntKind.i64 ((↑x_5 : Int) + (16 : Int))) < List.length
  (List.set (List.set (List.set (divsI (regI r (dataI (ofBytes s)) (16 : Nat)) x_5) ((0 : Nat) + Int.toNat (↑x_5 : Int)) (0 : Int)) ((0 : Nat) + Int.toNat (IntKind.wrap IntKind.i64 ((↑x_5 : Int) + (4 : Int)))) (IntKind.wrap
  IntKind.i64 ((1 : Int) - List.getD (List.set (divsI (regI r (dataI (ofBytes s)) (16 : Nat)) x_5) ((0 : Nat) + Int.toNat (↑x_5 : Int)) (0 : Int)) ((0 : Nat) + Int.toNat (IntKind.wrap IntKind.i64 ((↑x_5 : Int) + (4 :
  Int)))) (0 : Int)))) ((0 : Nat) + Int.toNat (IntKind.wrap IntKind.i64 ((↑x_5 : Int) + (11 : Int)))) (IntKind.wrap IntKind.i64 ((1 : Int) - List.getD (List.set (List.set (divsI (regI r (dataI (ofBytes s)) (16 : Nat)) x_5)
  ((0 : Nat) + Int.toNat (↑x_5 : Int)) (0 : Int)) ((0 : Nat) + Int.toNat (IntKind.wrap IntKind.i64 ((↑x_5 : Int) + (4 : Int)))) (IntKind.wrap IntKind.i64 ((1 : Int) - List.getD (List.set (divsI (regI r (dataI (ofBytes s))
  (16 : Nat)) x_5) ((0 : Nat) + Int.toNat (↑x_5 : Int)) (0 : Int)) ((0 : Nat) + Int.toNat (IntKind.wrap IntKind.i64 ((↑x_5 : Int) + (4 : Int)))) (0 : Int)))) ((0 : Nat) + Int.toNat (IntKind.wrap IntKind.i64 ((↑x_5 : Int) +
  (11 : Int)))) (0 : Int)))) ∧ ((0 : Int) ≤ IntKind.wrap IntKind.i64 ((↑x_5 : Int) + (16 : Int)) ∧ IntKind.wrap IntKind.i64 ((↑x_5 : Int) + (16 : Int)) < (↑((8 : Nat) * ByteArray.size s + x) : Int)) ∧ (0 : Nat) + Int.toNat
  (IntKind.wrap IntKind.i64 ((↑x_5 : Int) + (16 : Int))) < List.length (List.set (List.set (List.set (divsI (regI r (dataI (ofBytes s)) (16 : Nat)) x_5) ((0 : Nat) + Int.toNat (↑x_5 : Int)) (0 : Int)) ((0 : Nat) + Int.toNat
  (IntKind.wrap IntKind.i64 ((↑x_5 : Int) + (4 : Int)))) (IntKind.wrap IntKind.i64 ((1 : Int) - List.getD (List.set (divsI (regI r (dataI (ofBytes s)) (16 : Nat)) x_5) ((0 : Nat) + Int.toNat (↑x_5 : Int)) (0 : Int)) ((0 :
  Nat) + Int.toNat (IntKind.wrap IntKind.i64 ((↑x_5 : Int) + (4 : Int)))) (0 : Int)))) ((0 : Nat) + Int.toNat (IntKind.wrap IntKind.i64 ((↑x_5 : Int) + (11 : Int)))) (IntKind.wrap IntKind.i64 ((1 : Int) - List.getD
  (List.set (List.set (divsI (regI r (dataI (ofBytes s)) (16 : Nat)) x_5) ((0 : Nat) + Int.toNat (↑x_5 : Int)) (0 : Int)) ((0 : Nat) + Int.toNat (IntKind.wrap IntKind.i64 ((↑x_5 : Int) + (4 : Int)))) (IntKind.wrap
  IntKind.i64 ((1 : Int) - List.getD (List.set (divsI (regI r (dataI (ofBytes s)) (16 : Nat)) x_5) ((0 : Nat) + Int.toNat (↑x_5 : Int)) (0 : Int)) ((0 : Nat) + Int.toNat (IntKind.wrap IntKind.i64 ((↑x_5 : Int) + (4 :
  Int)))) (0 : Int)))) ((0 : Nat) + Int.toNat (IntKind.wrap IntKind.i64 ((↑x_5 : Int) + (11 : Int)))) (0 : Int))))) ∧ ∃ (y : Nat), (IntKind.wrap IntKind.i64 (Int.tmod r (65536 : Int) + (65536 : Int)) = IntKind.wrap
  IntKind.i64 (Int.tmod r (65536 : Int) + (65536 : Int)) ∧ s = s ∧ (0 : Nat) = (0 : Nat) ∧ (8 : Nat) * ByteArray.size s + x = (8 : Nat) * ByteArray.size s + x ∧ IntKind.wrap IntKind.i64 ((↑x_5 : Int) + (1 : Int)) = (↑y :
  Int) ∧ List.set (List.set (List.set (List.set (divsI (regI r (dataI (ofBytes s)) (16 : Nat)) x_5) ((0 : Nat) + Int.toNat (↑x_5 : Int)) (0 : Int)) ((0 : Nat) + Int.toNat (IntKind.wrap IntKind.i64 ((↑x_5 : Int) + (4 :
  Int)))) (IntKind.wrap IntKind.i64 ((1 : Int) - List.getD (List.set (divsI (regI r (dataI (ofBytes s)) (16 : Nat)) x_5) ((0 : Nat) + Int.toNat (↑x_5 : Int)) (0 : Int)) ((0 : Nat) + Int.toNat (IntKind.wrap IntKind.i64
  ((↑x_5 : Int) + (4 : Int)))) (0 : Int)))) ((0 : Nat) + Int.toNat (IntKind.wrap IntKind.i64 ((↑x_5 : Int) + (11 : Int)))) (IntKind.wrap IntKind.i64 ((1 : Int) - List.getD (List.set (List.set (divsI (regI r (dataI (ofBytes
  s)) (16 : Nat)) x_5) ((0 : Nat) + Int.toNat (↑x_5 : Int)) (0 : Int)) ((0 : Nat) + Int.toNat (IntKind.wrap IntKind.i64 ((↑x_5 : Int) + (4 : Int)))) (IntKind.wrap IntKind.i64 ((1 : Int) - List.getD (List.set (divsI (regI r
  (dataI (ofBytes s)) (16 : Nat)) x_5) ((0 : Nat) + Int.toNat (↑x_5 : Int)) (0 : Int)) ((0 : Nat) + Int.toNat (IntKind.wrap IntKind.i64 ((↑x_5 : Int) + (4 : Int)))) (0 : Int)))) ((0 : Nat) + Int.toNat (IntKind.wrap
  IntKind.i64 ((↑x_5 : Int) + (11 : Int)))) (0 : Int)))) ((0 : Nat) + Int.toNat (IntKind.wrap IntKind.i64 ((↑x_5 : Int) + (16 : Int)))) (IntKind.wrap IntKind.i64 ((1 : Int) - List.getD (List.set (List.set (List.set (divsI
  (regI r (dataI (ofBytes s)) (16 : Nat)) x_5) ((0 : Nat) + Int.toNat (↑x_5 : Int)) (0 : Int)) ((0 : Nat) + Int.toNat (IntKind.wrap IntKind.i64 ((↑x_5 : Int) + (4 : Int)))) (IntKind.wrap IntKind.i64 ((1 : Int) - List.getD
  (List.set (divsI (regI r (dataI (ofBytes s)) (16 : Nat)) x_5) ((0 : Nat) + Int.toNat (↑x_5 : Int)) (0 : Int)) ((0 : Nat) + Int.toNat (IntKind.wrap IntKind.i64 ((↑x_5 : Int) + (4 : Int)))) (0 : Int)))) ((0 : Nat) +
  Int.toNat (IntKind.wrap IntKind.i64 ((↑x_5 : Int) + (11 : Int)))) (IntKind.wrap IntKind.i64 ((1 : Int) - List.getD (List.set (List.set (divsI (regI r (dataI (ofBytes s)) (16 : Nat)) x_5) ((0 : Nat) + Int.toNat (↑x_5 :
  Int)) (0 : Int)) ((0 : Nat) + Int.toNat (IntKind.wrap IntKind.i64 ((↑x_5 : Int) + (4 : Int)))) (IntKind.wrap IntKind.i64 ((1 : Int) - List.getD (List.set (divsI (regI r (dataI (ofBytes s)) (16 : Nat)) x_5) ((0 : Nat) +
  Int.toNat (↑x_5 : Int)) (0 : Int)) ((0 : Nat) + Int.toNat (IntKind.wrap IntKind.i64 ((↑x_5 : Int) + (4 : Int)))) (0 : Int)))) ((0 : Nat) + Int.toNat (IntKind.wrap IntKind.i64 ((↑x_5 : Int) + (11 : Int)))) (0 : Int)))) ((0
  : Nat) + Int.toNat (IntKind.wrap IntKind.i64 ((↑x_5 : Int) + (16 : Int)))) (0 : Int))) = divsI (regI r (dataI (ofBytes s)) (16 : Nat)) y ∧ false = false) ∧ y ≤ (8 : Nat) * ByteArray.size s ∧ (8 : Nat) * ByteArray.size s -
  y < (8 : Nat) * ByteArray.size s - x_5 else ∃ (y : Nat), (IntKind.wrap IntKind.i64 (Int.tmod r (65536 : Int) + (65536 : Int)) = IntKind.wrap IntKind.i64 (Int.tmod r (65536 : Int) + (65536 : Int)) ∧ s = s ∧ (0 : Nat) = (0
  : Nat) ∧ (8 : Nat) * ByteArray.size s + x = (8 : Nat) * ByteArray.size s + x ∧ IntKind.wrap IntKind.i64 ((↑x_5 : Int) + (1 : Int)) = (↑y : Int) ∧ divsI (regI r (dataI (ofBytes s)) (16 : Nat)) x_5 = divsI (regI r (dataI
  (ofBytes s)) (16 : Nat)) y ∧ false = false) ∧ y ≤ (8 : Nat) * ByteArray.size s ∧ (8 : Nat) * ByteArray.size s - y < (8 : Nat) * ByteArray.size s - x_5 else ∃ (x_6 : Nat), (((0 : Nat) = (0 : Nat) ∧ (8 : Nat) *
  ByteArray.size s + x = (8 : Nat) * ByteArray.size s + x ∧ (0 : Int) = numTo19 (divsI (regI r (dataI (ofBytes s)) (16 : Nat)) ((8 : Nat) * ByteArray.size s)) ((8 : Nat) * ByteArray.size s) x_6 ∧ IntKind.wrap IntKind.i64
  ((↑((8 : Nat) * ByteArray.size s + x) : Int) - (16 : Int)) = (8 : Int) * (↑(ByteArray.size s) : Int) + (↑x_6 : Int) ∧ divsI (regI r (dataI (ofBytes s)) (16 : Nat)) x_5 = divsI (regI r (dataI (ofBytes s)) (16 : Nat)) x_5 ∧
  false = false) ∧ x_6 ≤ (16 : Nat)) ∧ ∀ (x_7 : Nat), x_7 ≤ (16 : Nat) → IntKind.min IntKind.i64 ≤ (8 : Int) * (↑(ByteArray.size s) : Int) + (↑x_7 : Int) ∧ (8 : Int) * (↑(ByteArray.size s) : Int) + (↑x_7 : Int) ≤
  IntKind.max IntKind.i64 ∧ IntKind.min IntKind.i64 ≤ numTo19 (divsI (regI r (dataI (ofBytes s)) (16 : Nat)) ((8 : Nat) * ByteArray.size s)) ((8 : Nat) * ByteArray.size s) x_7 ∧ numTo19 (divsI (regI r (dataI (ofBytes s))
  (16 : Nat)) ((8 : Nat) * ByteArray.size s)) ((8 : Nat) * ByteArray.size s) x_7 ≤ IntKind.max IntKind.i64 → bif decide ((8 : Int) * (↑(ByteArray.size s) : Int) + (↑x_7 : Int) < (↑((8 : Nat) * ByteArray.size s + x) : Int))
  then (((0 : Int) ≤ (8 : Int) * (↑(ByteArray.size s) : Int) + (↑x_7 : Int) ∧ (8 : Int) * (↑(ByteArray.size s) : Int) + (↑x_7 : Int) < (↑((8 : Nat) * ByteArray.size s + x) : Int)) ∧ (0 : Nat) + Int.toNat ((8 : Int) *
  (↑(ByteArray.size s) : Int) + (↑x_7 : Int)) < List.length (divsI (regI r (dataI (ofBytes s)) (16 : Nat)) x_5)) ∧ ∃ (y : Nat), ((0 : Nat) = (0 : Nat) ∧ (8 : Nat) * ByteArray.size s + x = (8 : Nat) * ByteArray.size s + x ∧
  IntKind.wrap IntKind.i64 (IntKind.wrap IntKind.i64 ((2 : Int) * numTo19 (divsI (regI r (dataI (ofBytes s)) (16 : Nat)) ((8 : Nat) * ByteArray.size s)) ((8 : Nat) * ByteArray.size s) x_7) + List.getD (divsI (regI r (dataI
  (ofBytes s)) (16 : Nat)) x_5) ((0 : Nat) + Int.toNat ((8 : Int) * (↑(ByteArray.size s) : Int) + (↑x_7 : Int))) (0 : Int)) = numTo19 (divsI (regI r (dataI (ofBytes s)) (16 : Nat)) ((8 : Nat) * ByteArray.size s)) ((8 : Nat)
  * ByteArray.size s) y ∧ IntKind.wrap IntKind.i64 ((8 : Int) * (↑(ByteArray.size s) : Int) + (↑x_7 : Int) + (1 : Int)) = (8 : Int) * (↑(ByteArray.size s) : Int) + (↑y : Int) ∧ divsI (regI r (dataI (ofBytes s)) (16 : Nat))
  x_5 = divsI (regI r (dataI (ofBytes s)) (16 : Nat)) x_5 ∧ false = false) ∧ y ≤ (16 : Nat) ∧ (16 : Nat) - y < (16 : Nat) - x_7 else numTo19 (divsI (regI r (dataI (ofBytes s)) (16 : Nat)) ((8 : Nat) * ByteArray.size s)) ((8
  : Nat) * ByteArray.size s) x_7 = sumI r (ofBytes s) else ∃ (x : Nat), ((Int.tmod r (65536 : Int) = Int.tmod r (65536 : Int) ∧ s = s ∧ List.length (bitsTo s x (0 : Nat)) = (0 : Nat) ∧ (0 : Int) = (↑x : Int) ∧ bitsTo s x (0
  : Nat) = []) ∧ x ≤ ByteArray.size s) ∧ ∀ (x : Nat), x ≤ ByteArray.size s → (IntKind.min IntKind.i64 ≤ (↑x : Int) ∧ (↑x : Int) ≤ IntKind.max IntKind.i64 ∧ ∀ (y : Int), List.Mem y (bitsTo s x (0 : Nat)) → IntKind.min
  IntKind.i64 ≤ y ∧ y ≤ IntKind.max IntKind.i64) → bif decide ((↑x : Int) < (↑(ByteArray.size s) : Int)) then ∃ (x_1 : Nat), ((Int.tmod r (65536 : Int) = Int.tmod r (65536 : Int) ∧ s = s ∧ (0 : Nat) = (0 : Nat) ∧
  List.length (bitsTo s x (0 : Nat)) = List.length (bitsTo s (Int.toNat (↑x : Int)) x_1) ∧ (↑x : Int) = (↑x : Int) ∧ (128 : Int) = (128 : Int) / (2 : Int) ^ x_1 ∧ bitsTo s x (0 : Nat) = bitsTo s (Int.toNat (↑x : Int)) x_1 ∧
  false = false) ∧ x_1 ≤ (8 : Nat)) ∧ ∀ (x_2 : Nat), x_2 ≤ (8 : Nat) → (IntKind.min IntKind.i64 ≤ (128 : Int) / (2 : Int) ^ x_2 ∧ (128 : Int) / (2 : Int) ^ x_2 ≤ IntKind.max IntKind.i64 ∧ ∀ (y : Int), List.Mem y (bitsTo s
  (Int.toNat (↑x : Int)) x_2) → IntKind.min IntKind.i64 ≤ y ∧ y ≤ IntKind.max IntKind.i64) → bif decide ((1 : Int) ≤ (128 : Int) / (2 : Int) ^ x_2) then (((0 : Int) ≤ (↑x : Int) ∧ (↑x : Int) < (↑(ByteArray.size s) : Int)) ∧
  (128 : Int) / (2 : Int) ^ x_2 ≠ (0 : Int) ∧ (2 : Int) ≠ (0 : Int) ∧ (1 : Nat) ≤ (1 : Nat) ∧ (0 : Nat) + List.length (bitsTo s (Int.toNat (↑x : Int)) x_2) = List.length (bitsTo s (Int.toNat (↑x : Int)) x_2) ∧ (List.length
  (bitsTo s (Int.toNat (↑x : Int)) x_2) + List.length (seg (Int.tmod (IntKind.wrap IntKind.i64 (Int.tdiv (IntKind.wrap IntKind.i64 (byteAt s (Int.toNat (↑x : Int)))) ((128 : Int) / (2 : Int) ^ x_2))) (2 : Int) ::
  List.replicate (nat_lit 0) (0 : Int)) (0 : Nat) (1 : Nat))) * (8 : Nat) ≤ (70368744177664 : Nat)) ∧ (2 : Int) ≠ (0 : Int) ∧ ∃ (y : Nat), (Int.tmod r (65536 : Int) = Int.tmod r (65536 : Int) ∧ s = s ∧ (0 : Nat) = (0 : Nat)
  ∧ List.length (bitsTo s (Int.toNat (↑x : Int)) x_2) + List.length (seg (Int.tmod (IntKind.wrap IntKind.i64 (Int.tdiv (IntKind.wrap IntKind.i64 (byteAt s (Int.toNat (↑x : Int)))) ((128 : Int) / (2 : Int) ^ x_2))) (2 : Int)
  :: List.replicate (nat_lit 0) (0 : Int)) (0 : Nat) (1 : Nat)) = List.length (bitsTo s (Int.toNat (↑x : Int)) y) ∧ (↑x : Int) = (↑x : Int) ∧ IntKind.wrap IntKind.i64 (Int.tdiv ((128 : Int) / (2 : Int) ^ x_2) (2 : Int)) =
  (128 : Int) / (2 : Int) ^ y ∧ List.append (List.drop (0 : Nat) (bitsTo s (Int.toNat (↑x : Int)) x_2)) (seg (Int.tmod (IntKind.wrap IntKind.i64 (Int.tdiv (IntKind.wrap IntKind.i64 (byteAt s (Int.toNat (↑x : Int)))) ((128 :
  Int) / (2 : Int) ^ x_2))) (2 : Int) :: List.replicate (nat_lit 0) (0 : Int)) (0 : Nat) (1 : Nat)) = bitsTo s (Int.toNat (↑x : Int)) y ∧ false = false) ∧ y ≤ (8 : Nat) ∧ (8 : Nat) - y < (8 : Nat) - x_2 else ∃ (y : Nat),
  (Int.tmod r (65536 : Int) = Int.tmod r (65536 : Int) ∧ s = s ∧ (0 : Nat) = (0 : Nat) ∧ List.length (bitsTo s (Int.toNat (↑x : Int)) x_2) = List.length (bitsTo s y (0 : Nat)) ∧ IntKind.wrap IntKind.i64 ((↑x : Int) + (1 :
  Int)) = (↑y : Int) ∧ bitsTo s (Int.toNat (↑x : Int)) x_2 = bitsTo s y (0 : Nat) ∧ false = false) ∧ y ≤ ByteArray.size s ∧ ByteArray.size s - y < ByteArray.size s - x else ∃ (x_1 : Nat), ((Int.tmod r (65536 : Int) =
  Int.tmod r (65536 : Int) ∧ s = s ∧ (0 : Nat) = (0 : Nat) ∧ List.length (bitsTo s x (0 : Nat)) = (8 : Nat) * ByteArray.size s + x_1 ∧ (0 : Int) = (↑x_1 : Int) ∧ bitsTo s x (0 : Nat) = unB (ofBytes s) ++ List.replicate x_1
  (0 : Int) ∧ false = false) ∧ x_1 ≤ (16 : Nat)) ∧ ∀ (x : Nat), x ≤ (16 : Nat) → (IntKind.min IntKind.i64 ≤ (↑x : Int) ∧ (↑x : Int) ≤ IntKind.max IntKind.i64 ∧ ∀ (y : Int), List.Mem y (unB (ofBytes s) ++ List.replicate x (0
  : Int)) → IntKind.min IntKind.i64 ≤ y ∧ y ≤ IntKind.max IntKind.i64) → bif decide ((↑x : Int) < (16 : Int)) then ((1 : Nat) ≤ (1 : Nat) ∧ (0 : Nat) + ((8 : Nat) * ByteArray.size s + x) = List.length (List.append (unB
  (ofBytes s)) (List.replicate x (0 : Int))) ∧ ((8 : Nat) * ByteArray.size s + x + (1 : Nat)) * (8 : Nat) ≤ (70368744177664 : Nat)) ∧ ∃ (y : Nat), (Int.tmod r (65536 : Int) = Int.tmod r (65536 : Int) ∧ s = s ∧ (0 : Nat) =
  (0 : Nat) ∧ (8 : Nat) * ByteArray.size s + x + (1 : Nat) = (8 : Nat) * ByteArray.size s + y ∧ IntKind.wrap IntKind.i64 ((↑x : Int) + (1 : Int)) = (↑y : Int) ∧ List.append (List.drop (0 : Nat) (List.append (unB (ofBytes
  s)) (List.replicate x (0 : Int)))) (seg ((0 : Int) :: List.replicate (nat_lit 0) (0 : Int)) (0 : Nat) (1 : Nat)) = unB (ofBytes s) ++ List.replicate y (0 : Int) ∧ false = false) ∧ y ≤ (16 : Nat) ∧ (16 : Nat) - y < (16 :
  Nat) - x else ∃ (x_2 : Nat), ((Int.tmod r (65536 : Int) = Int.tmod r (65536 : Int) ∧ s = s ∧ (0 : Nat) = (0 : Nat) ∧ (8 : Nat) * ByteArray.size s + x = (8 : Nat) * ByteArray.size s + x ∧ (0 : Int) = (↑x_2 : Int) ∧
  List.append (unB (ofBytes s)) (List.replicate x (0 : Int)) = regI r (dataI (ofBytes s)) x_2 ∧ false = false) ∧ x_2 ≤ (16 : Nat)) ∧ ∀ (x_3 : Nat), x_3 ≤ (16 : Nat) → (IntKind.min IntKind.i64 ≤ (↑x_3 : Int) ∧ (↑x_3 : Int) ≤
  IntKind.max IntKind.i64 ∧ ∀ (y : Int), List.Mem y (regI r (dataI (ofBytes s)) x_3) → IntKind.min IntKind.i64 ≤ y ∧ y ≤ IntKind.max IntKind.i64) → bif decide ((↑x_3 : Int) < (16 : Int)) then ∃ (x_4 : Nat), ((Int.tmod r
  (65536 : Int) = Int.tmod r (65536 : Int) ∧ s = s ∧ (0 : Nat) = (0 : Nat) ∧ (8 : Nat) * ByteArray.size s + x = (8 : Nat) * ByteArray.size s + x ∧ (↑x_3 : Int) = (↑x_3 : Int) ∧ (32768 : Int) = (32768 : Int) / (2 : Int) ^
  x_4 ∧ (0 : Int) = (↑x_4 : Int) ∧ regI r (dataI (ofBytes s)) x_3 = regI r (dataI (ofBytes s)) x_3 ∧ false = false) ∧ x_4 ≤ Int.toNat (↑x_3 : Int)) ∧ ∀ (x_5 : Nat), x_5 ≤ Int.toNat (↑x_3 : Int) → IntKind.min IntKind.i64 ≤
  (↑x_5 : Int) ∧ (↑x_5 : Int) ≤ IntKind.max IntKind.i64 ∧ IntKind.min IntKind.i64 ≤ (32768 : Int) / (2 : Int) ^ x_5 ∧ (32768 : Int) / (2 : Int) ^ x_5 ≤ IntKind.max IntKind.i64 → bif decide ((↑x_5 : Int) < (↑x_3 : Int)) then
  (2 : Int) ≠ (0 : Int) ∧ ∃ (y : Nat), (Int.tmod r (65536 : Int) = Int.tmod r (65536 : Int) ∧ s = s ∧ (0 : Nat) = (0 : Nat) ∧ (8 : Nat) * ByteArray.size s + x = (8 : Nat) * ByteArray.size s + x ∧ (↑x_3 : Int) = (↑x_3 : Int)
  ∧ IntKind.wrap IntKind.i64 (Int.tdiv ((32768 : Int) / (2 : Int) ^ x_5) (2 : Int)) = (32768 : Int) / (2 : Int) ^ y ∧ IntKind.wrap IntKind.i64 ((↑x_5 : Int) + (1 : Int)) = (↑y : Int) ∧ regI r (dataI (ofBytes s)) x_3 = regI
  r (dataI (ofBytes s)) x_3 ∧ false = false) ∧ y ≤ Int.toNat (↑x_3 : Int) ∧ Int.toNat (↑x_3 : Int) - y < Int.toNat (↑x_3 : Int) - x_5 else (((0 : Int) ≤ (↑x_3 : Int) ∧ (↑x_3 : Int) < (↑((8 : Nat) * ByteArray.size s + x) :
  Int)) ∧ (0 : Nat) + Int.toNat (↑x_3 : Int) < List.length (regI r (dataI (ofBytes s)) x_3) ∧ (32768 : Int) / (2 : Int) ^ x_5 ≠ (0 : Int) ∧ (2 : Int) ≠ (0 : Int) ∧ ((0 : Int) ≤ (↑x_3 : Int) ∧ (↑x_3 : Int) < (↑((8 : Nat) *
  ByteArray.size s + x) : Int)) ∧ (0 : Nat) + Int.toNat (↑x_3 : Int) < List.length (regI r (dataI (ofBytes s)) x_3)) ∧ ∃ (y : Nat), (Int.tmod r (65536 : Int) = Int.tmod r (65536 : Int) ∧ s = s ∧ (0 : Nat) = (0 : Nat) ∧ (8 :
  Nat) * ByteArray.size s + x = (8 : Nat) * ByteArray.size s + x ∧ IntKind.wrap IntKind.i64 ((↑x_3 : Int) + (1 : Int)) = (↑y : Int) ∧ List.set (regI r (dataI (ofBytes s)) x_3) ((0 : Nat) + Int.toNat (↑x_3 : Int)) (Int.tmod
  (IntKind.wrap IntKind.i64 (List.getD (regI r (dataI (ofBytes s)) x_3) ((0 : Nat) + Int.toNat (↑x_3 : Int)) (0 : Int) + IntKind.wrap IntKind.i64 (Int.tdiv (Int.tmod r (65536 : Int)) ((32768 : Int) / (2 : Int) ^ x_5)))) (2
  : Int)) = regI r (dataI (ofBytes s)) y ∧ false = false) ∧ y ≤ (16 : Nat) ∧ (16 : Nat) - y < (16 : Nat) - x_3 else ∃ (x_4 : Nat), ((Int.tmod r (65536 : Int) = Int.tmod r (65536 : Int) ∧ s = s ∧ (0 : Nat) = (0 : Nat) ∧ (8 :
  Nat) * ByteArray.size s + x = (8 : Nat) * ByteArray.size s + x ∧ (0 : Int) = (↑x_4 : Int) ∧ regI r (dataI (ofBytes s)) x_3 = divsI (regI r (dataI (ofBytes s)) (16 : Nat)) x_4 ∧ false = false) ∧ x_4 ≤ (8 : Nat) *
  ByteArray.size s) ∧ ∀ (x_5 : Nat), x_5 ≤ (8 : Nat) * ByteArray.size s → (IntKind.min IntKind.i64 ≤ (↑x_5 : Int) ∧ (↑x_5 : Int) ≤ IntKind.max IntKind.i64 ∧ ∀ (y : Int), List.Mem y (divsI (regI r (dataI (ofBytes s)) (16 :
  Nat)) x_5) → IntKind.min IntKind.i64 ≤ y ∧ y ≤ IntKind.max IntKind.i64) → bif decide (IntKind.wrap IntKind.i64 ((↑x_5 : Int) + (16 : Int)) < (↑((8 : Nat) * ByteArray.size s + x) : Int)) then (((0 : Int) ≤ (↑x_5 : Int) ∧
  (↑x_5 : Int) < (↑((8 : Nat) * ByteArray.size s + x) : Int)) ∧ (0 : Nat) + Int.toNat (↑x_5 : Int) < List.length (divsI (regI r (dataI (ofBytes s)) (16 : Nat)) x_5)) ∧ bif decide (List.getD (divsI (regI r (dataI (ofBytes
  s)) (16 : Nat)) x_5) ((0 : Nat) + Int.toNat (↑x_5 : Int)) (0 : Int) = (1 : Int)) then (((0 : Int) ≤ (↑x_5 : Int) ∧ (↑x_5 : Int) < (↑((8 : Nat) * ByteArray.size s + x) : Int)) ∧ (0 : Nat) + Int.toNat (↑x_5 : Int) <
  List.length (divsI (regI r (dataI (ofBytes s)) (16 : Nat)) x_5)) ∧ (((0 : Int) ≤ IntKind.wrap IntKind.i64 ((↑x_5 : Int) + (4 : Int)) ∧ IntKind.wrap IntKind.i64 ((↑x_5 : Int) + (4 : Int)) < (↑((8 : Nat) * ByteArray.size s
  + x) : Int)) ∧ (0 : Nat) + Int.toNat (IntKind.wrap IntKind.i64 ((↑x_5 : Int) + (4 : Int))) < List.length (List.set (divsI (regI r (dataI (ofBytes s)) (16 : Nat)) x_5) ((0 : Nat) + Int.toNat (↑x_5 : Int)) (0 : Int)) ∧ ((0
  : Int) ≤ IntKind.wrap IntKind.i64 ((↑x_5 : Int) + (4 : Int)) ∧ IntKind.wrap IntKind.i64 ((↑x_5 : Int) + (4 : Int)) < (↑((8 : Nat) * ByteArray.size s + x) : Int)) ∧ (0 : Nat) + Int.toNat (IntKind.wrap IntKind.i64 ((↑x_5 :
  Int) + (4 : Int))) < List.length (List.set (divsI (regI r (dataI (ofBytes s)) (16 : Nat)) x_5) ((0 : Nat) + Int.toNat (↑x_5 : Int)) (0 : Int))) ∧ (((0 : Int) ≤ IntKind.wrap IntKind.i64 ((↑x_5 : Int) + (11 : Int)) ∧
  IntKind.wrap IntKind.i64 ((↑x_5 : Int) + (11 : Int)) < (↑((8 : Nat) * ByteArray.size s + x) : Int)) ∧ (0 : Nat) + Int.toNat (IntKind.wrap IntKind.i64 ((↑x_5 : Int) + (11 : Int))) < List.length (List.set (List.set (divsI
  (regI r (dataI (ofBytes s)) (16 : Nat)) x_5) ((0 : Nat) + Int.toNat (↑x_5 : Int)) (0 : Int)) ((0 : Nat) + Int.toNat (IntKind.wrap IntKind.i64 ((↑x_5 : Int) + (4 : Int)))) (IntKind.wrap IntKind.i64 ((1 : Int) - List.getD
  (List.set (divsI (regI r (dataI (ofBytes s)) (16 : Nat)) x_5) ((0 : Nat) + Int.toNat (↑x_5 : Int)) (0 : Int)) ((0 : Nat) + Int.toNat (IntKind.wrap IntKind.i64 ((↑x_5 : Int) + (4 : Int)))) (0 : Int)))) ∧ ((0 : Int) ≤
  IntKind.wrap IntKind.i64 ((↑x_5 : Int) + (11 : Int)) ∧ IntKind.wrap IntKind.i64 ((↑x_5 : Int) + (11 : Int)) < (↑((8 : Nat) * ByteArray.size s + x) : Int)) ∧ (0 : Nat) + Int.toNat (IntKind.wrap IntKind.i64 ((↑x_5 : Int) +
  (11 : Int))) < List.length (List.set (List.set (divsI (regI r (dataI (ofBytes s)) (16 : Nat)) x_5) ((0 : Nat) + Int.toNat (↑x_5 : Int)) (0 : Int)) ((0 : Nat) + Int.toNat (IntKind.wrap IntKind.i64 ((↑x_5 : Int) + (4 :
  Int)))) (IntKind.wrap IntKind.i64 ((1 : Int) - List.getD (List.set (divsI (regI r (dataI (ofBytes s)) (16 : Nat)) x_5) ((0 : Nat) + Int.toNat (↑x_5 : Int)) (0 : Int)) ((0 : Nat) + Int.toNat (IntKind.wrap IntKind.i64
  ((↑x_5 : Int) + (4 : Int)))) (0 : Int))))) ∧ (((0 : Int) ≤ IntKind.wrap IntKind.i64 ((↑x_5 : Int) + (16 : Int)) ∧ IntKind.wrap IntKind.i64 ((↑x_5 : Int) + (16 : Int)) < (↑((8 : Nat) * ByteArray.size s + x) : Int)) ∧ (0 :
  Nat) + Int.toNat (IntKind.wrap IntKind.i64 ((↑x_5 : Int) + (16 : Int))) < List.length (List.set (List.set (List.set (divsI (regI r (dataI (ofBytes s)) (16 : Nat)) x_5) ((0 : Nat) + Int.toNat (↑x_5 : Int)) (0 : Int)) ((0 :
  Nat) + Int.toNat (IntKind.wrap IntKind.i64 ((↑x_5 : Int) + (4 : Int)))) (IntKind.wrap IntKind.i64 ((1 : Int) - List.getD (List.set (divsI (regI r (dataI (ofBytes s)) (16 : Nat)) x_5) ((0 : Nat) + Int.toNat (↑x_5 : Int))
  (0 : Int)) ((0 : Nat) + Int.toNat (IntKind.wrap IntKind.i64 ((↑x_5 : Int) + (4 : Int)))) (0 : Int)))) ((0 : Nat) + Int.toNat (IntKind.wrap IntKind.i64 ((↑x_5 : Int) + (11 : Int)))) (IntKind.wrap IntKind.i64 ((1 : Int) -
  List.getD (List.set (List.set (divsI (regI r (dataI (ofBytes s)) (16 : Nat)) x_5) ((0 : Nat) + Int.toNat (↑x_5 : Int)) (0 : Int)) ((0 : Nat) + Int.toNat (IntKind.wrap IntKind.i64 ((↑x_5 : Int) + (4 : Int)))) (IntKind.wrap
  IntKind.i64 ((1 : Int) - List.getD (List.set (divsI (regI r (dataI (ofBytes s)) (16 : Nat)) x_5) ((0 : Nat) + Int.toNat (↑x_5 : Int)) (0 : Int)) ((0 : Nat) + Int.toNat (IntKind.wrap IntKind.i64 ((↑x_5 : Int) + (4 :
  Int)))) (0 : Int)))) ((0 : Nat) + Int.toNat (IntKind.wrap IntKind.i64 ((↑x_5 : Int) + (11 : Int)))) (0 : Int)))) ∧ ((0 : Int) ≤ IntKind.wrap IntKind.i64 ((↑x_5 : Int) + (16 : Int)) ∧ IntKind.wrap IntKind.i64 ((↑x_5 : Int)
  + (16 : Int)) < (↑((8 : Nat) * ByteArray.size s + x) : Int)) ∧ (0 : Nat) + Int.toNat (IntKind.wrap IntKind.i64 ((↑x_5 : Int) + (16 : Int))) < List.length (List.set (List.set (List.set (divsI (regI r (dataI (ofBytes s))
  (16 : Nat)) x_5) ((0 : Nat) + Int.toNat (↑x_5 : Int)) (0 : Int)) ((0 : Nat) + Int.toNat (IntKind.wrap IntKind.i64 ((↑x_5 : Int) + (4 : Int)))) (IntKind.wrap IntKind.i64 ((1 : Int) - List.getD (List.set (divsI (regI r
  (dataI (ofBytes s)) (16 : Nat)) x_5) ((0 : Nat) + Int.toNat (↑x_5 : Int)) (0 : Int)) ((0 : Nat) + Int.toNat (IntKind.wrap IntKind.i64 ((↑x_5 : Int) + (4 : Int)))) (0 : Int)))) ((0 : Nat) + Int.toNat (IntKind.wrap
  IntKind.i64 ((↑x_5 : Int) + (11 : Int)))) (IntKind.wrap IntKind.i64 ((1 : Int) - List.getD (List.set (List.set (divsI (regI r (dataI (ofBytes s)) (16 : Nat)) x_5) ((0 : Nat) + Int.toNat (↑x_5 : Int)) (0 : Int)) ((0 : Nat)
  + Int.toNat (IntKind.wrap IntKind.i64 ((↑x_5 : Int) + (4 : Int)))) (IntKind.wrap IntKind.i64 ((1 : Int) - List.getD (List.set (divsI (regI r (dataI (ofBytes s)) (16 : Nat)) x_5) ((0 : Nat) + Int.toNat (↑x_5 : Int)) (0 :
  Int)) ((0 : Nat) + Int.toNat (IntKind.wrap IntKind.i64 ((↑x_5 : Int) + (4 : Int)))) (0 : Int)))) ((0 : Nat) + Int.toNat (IntKind.wrap IntKind.i64 ((↑x_5 : Int) + (11 : Int)))) (0 : Int))))) ∧ ∃ (y : Nat), (Int.tmod r
  (65536 : Int) = Int.tmod r (65536 : Int) ∧ s = s ∧ (0 : Nat) = (0 : Nat) ∧ (8 : Nat) * ByteArray.size s + x = (8 : Nat) * ByteArray.size s + x ∧ IntKind.wrap IntKind.i64 ((↑x_5 : Int) + (1 : Int)) = (↑y : Int) ∧ List.set
  (List.set (List.set (List.set (divsI (regI r (dataI (ofBytes s)) (16 : Nat)) x_5) ((0 : Nat) + Int.toNat (↑x_5 : Int)) (0 : Int)) ((0 : Nat) + Int.toNat (IntKind.wrap IntKind.i64 ((↑x_5 : Int) + (4 : Int)))) (IntKind.wrap
  IntKind.i64 ((1 : Int) - List.getD (List.set (divsI (regI r (dataI (ofBytes s)) (16 : Nat)) x_5) ((0 : Nat) + Int.toNat (↑x_5 : Int)) (0 : Int)) ((0 : Nat) + Int.toNat (IntKind.wrap IntKind.i64 ((↑x_5 : Int) + (4 :
  Int)))) (0 : Int)))) ((0 : Nat) + Int.toNat (IntKind.wrap IntKind.i64 ((↑x_5 : Int) + (11 : Int)))) (IntKind.wrap IntKind.i64 ((1 : Int) - List.getD (List.set (List.set (divsI (regI r (dataI (ofBytes s)) (16 : Nat)) x_5)
  ((0 : Nat) + Int.toNat (↑x_5 : Int)) (0 : Int)) ((0 : Nat) + Int.toNat (IntKind.wrap IntKind.i64 ((↑x_5 : Int) + (4 : Int)))) (IntKind.wrap IntKind.i64 ((1 : Int) - List.getD (List.set (divsI (regI r (dataI (ofBytes s))
  (16 : Nat)) x_5) ((0 : Nat) + Int.toNat (↑x_5 : Int)) (0 : Int)) ((0 : Nat) + Int.toNat (IntKind.wrap IntKind.i64 ((↑x_5 : Int) + (4 : Int)))) (0 : Int)))) ((0 : Nat) + Int.toNat (IntKind.wrap IntKind.i64 ((↑x_5 : Int) +
  (11 : Int)))) (0 : Int)))) ((0 : Nat) + Int.toNat (IntKind.wrap IntKind.i64 ((↑x_5 : Int) + (16 : Int)))) (IntKind.wrap IntKind.i64 ((1 : Int) - List.getD (List.set (List.set (List.set (divsI (regI r (dataI (ofBytes s))
  (16 : Nat)) x_5) ((0 : Nat) + Int.toNat (↑x_5 : Int)) (0 : Int)) ((0 : Nat) + Int.toNat (IntKind.wrap IntKind.i64 ((↑x_5 : Int) + (4 : Int)))) (IntKind.wrap IntKind.i64 ((1 : Int) - List.getD (List.set (divsI (regI r
  (dataI (ofBytes s)) (16 : Nat)) x_5) ((0 : Nat) + Int.toNat (↑x_5 : Int)) (0 : Int)) ((0 : Nat) + Int.toNat (IntKind.wrap IntKind.i64 ((↑x_5 : Int) + (4 : Int)))) (0 : Int)))) ((0 : Nat) + Int.toNat (IntKind.wrap
  IntKind.i64 ((↑x_5 : Int) + (11 : Int)))) (IntKind.wrap IntKind.i64 ((1 : Int) - List.getD (List.set (List.set (divsI (regI r (dataI (ofBytes s)) (16 : Nat)) x_5) ((0 : Nat) + Int.toNat (↑x_5 : Int)) (0 : Int)) ((0 : Nat)
  + Int.toNat (IntKind.wrap IntKind.i64 ((↑x_5 : Int) + (4 : Int)))) (IntKind.wrap IntKind.i64 ((1 : Int) - List.getD (List.set (divsI (regI r (dataI (ofBytes s)) (16 : Nat)) x_5) ((0 : Nat) + Int.toNat (↑x_5 : Int)) (0 :
  Int)) ((0 : Nat) + Int.toNat (IntKind.wrap IntKind.i64 ((↑x_5 : Int) + (4 : Int)))) (0 : Int)))) ((0 : Nat) + Int.toNat (IntKind.wrap IntKind.i64 ((↑x_5 : Int) + (11 : Int)))) (0 : Int)))) ((0 : Nat) + Int.toNat
  (IntKind.wrap IntKind.i64 ((↑x_5 : Int) + (16 : Int)))) (0 : Int))) = divsI (regI r (dataI (ofBytes s)) (16 : Nat)) y ∧ false = false) ∧ y ≤ (8 : Nat) * ByteArray.size s ∧ (8 : Nat) * ByteArray.size s - y < (8 : Nat) *
  ByteArray.size s - x_5 else ∃ (y : Nat), (Int.tmod r (65536 : Int) = Int.tmod r (65536 : Int) ∧ s = s ∧ (0 : Nat) = (0 : Nat) ∧ (8 : Nat) * ByteArray.size s + x = (8 : Nat) * ByteArray.size s + x ∧ IntKind.wrap
  IntKind.i64 ((↑x_5 : Int) + (1 : Int)) = (↑y : Int) ∧ divsI (regI r (dataI (ofBytes s)) (16 : Nat)) x_5 = divsI (regI r (dataI (ofBytes s)) (16 : Nat)) y ∧ false = false) ∧ y ≤ (8 : Nat) * ByteArray.size s ∧ (8 : Nat) *
  ByteArray.size s - y < (8 : Nat) * ByteArray.size s - x_5 else ∃ (x_6 : Nat), (((0 : Nat) = (0 : Nat) ∧ (8 : Nat) * ByteArray.size s + x = (8 : Nat) * ByteArray.size s + x ∧ (0 : Int) = numTo19 (divsI (regI r (dataI
  (ofBytes s)) (16 : Nat)) ((8 : Nat) * ByteArray.size s)) ((8 : Nat) * ByteArray.size s) x_6 ∧ IntKind.wrap IntKind.i64 ((↑((8 : Nat) * ByteArray.size s + x) : Int) - (16 : Int)) = (8 : Int) * (↑(ByteArray.size s) : Int) +
  (↑x_6 : Int) ∧ divsI (regI r (dataI (ofBytes s)) (16 : Nat)) x_5 = divsI (regI r (dataI (ofBytes s)) (16 : Nat)) x_5 ∧ false = false) ∧ x_6 ≤ (16 : Nat)) ∧ ∀ (x_7 : Nat), x_7 ≤ (16 : Nat) → IntKind.min IntKind.i64 ≤ (8 :
  Int) * (↑(ByteArray.size s) : Int) + (↑x_7 : Int) ∧ (8 : Int) * (↑(ByteArray.size s) : Int) + (↑x_7 : Int) ≤ IntKind.max IntKind.i64 ∧ IntKind.min IntKind.i64 ≤ numTo19 (divsI (regI r (dataI (ofBytes s)) (16 : Nat)) ((8 :
  Nat) * ByteArray.size s)) ((8 : Nat) * ByteArray.size s) x_7 ∧ numTo19 (divsI (regI r (dataI (ofBytes s)) (16 : Nat)) ((8 : Nat) * ByteArray.size s)) ((8 : Nat) * ByteArray.size s) x_7 ≤ IntKind.max IntKind.i64 → bif
  decide ((8 : Int) * (↑(ByteArray.size s) : Int) + (↑x_7 : Int) < (↑((8 : Nat) * ByteArray.size s + x) : Int)) then (((0 : Int) ≤ (8 : Int) * (↑(ByteArray.size s) : Int) + (↑x_7 : Int) ∧ (8 : Int) * (↑(ByteArray.size s) :
  Int) + (↑x_7 : Int) < (↑((8 : Nat) * ByteArray.size s + x) : Int)) ∧ (0 : Nat) + Int.toNat ((8 : Int) * (↑(ByteArray.size s) : Int) + (↑x_7 : Int)) < List.length (divsI (regI r (dataI (ofBytes s)) (16 : Nat)) x_5)) ∧ ∃ (y
  : Nat), ((0 : Nat) = (0 : Nat) ∧ (8 : Nat) * ByteArray.size s + x = (8 : Nat) * ByteArray.size s + x ∧ IntKind.wrap IntKind.i64 (IntKind.wrap IntKind.i64 ((2 : Int) * numTo19 (divsI (regI r (dataI (ofBytes s)) (16 : Nat))
  ((8 : Nat) * ByteArray.size s)) ((8 : Nat) * ByteArray.size s) x_7) + List.getD (divsI (regI r (dataI (ofBytes s)) (16 : Nat)) x_5) ((0 : Nat) + Int.toNat ((8 : Int) * (↑(ByteArray.size s) : Int) + (↑x_7 : Int))) (0 :
  Int)) = numTo19 (divsI (regI r (dataI (ofBytes s)) (16 : Nat)) ((8 : Nat) * ByteArray.size s)) ((8 : Nat) * ByteArray.size s) y ∧ IntKind.wrap IntKind.i64 ((8 : Int) * (↑(ByteArray.size s) : Int) + (↑x_7 : Int) + (1 :
  Int)) = (8 : Int) * (↑(ByteArray.size s) : Int) + (↑y : Int) ∧ divsI (regI r (dataI (ofBytes s)) (16 : Nat)) x_5 = divsI (regI r (dataI (ofBytes s)) (16 : Nat)) x_5 ∧ false = false) ∧ y ≤ (16 : Nat) ∧ (16 : Nat) - y < (16
  : Nat) - x_7 else numTo19 (divsI (regI r (dataI (ofBytes s)) (16 : Nat)) ((8 : Nat) * ByteArray.size s)) ((8 : Nat) * ByteArray.size s) x_7 = sumI r (ofBytes s)
theorem vcq16 (r : Int) (s : ByteArray) : Pq16 r s = vcFun Cq16 (annq16 r s) Go.Proofs.Try.f16 [⟨.int .i64, r⟩, ⟨.str, s⟩] [] (outq16 r s) := by kernel_rfl

noncomputable def Cq19 : Ctx := ⟨Go.Proofs.Try.prog, D, Gq16, (fun _ _ => none), fun _ => []⟩
def annq19 (y : List Int) : Nat → St → Option Ann := fun _ _ => some ⟨Nat, [1], [0], fun i => [(4, .v (.int .i64) (i : Int)), (3, .v (.int .i64) (sumSz (y.take i)))], fun _ => [], fun i => i ≤ 4 ∧ ∀ x ∈ y.take i, -12 ≤ x ∧ x ≤ 12, fun i => 4 - i⟩
def outq19 (y : List Int) : COut := ⟨[], .v (.int .i64) (pulsesF y), [], []⟩
def spq19 : Spec := fun args ins => match args, ins with
  | [⟨.arr 4 (.int .i64), y⟩], [] => some (outq19 y)
  | _, _ => none
def Gq19 := addG Gq16 19 spq19
def Pq19 (y : List Int) : Prop :=
  ∃ (x : Nat), (((0 : Nat) = (0 : Nat) ∧ (0 : Int) = sumSz (List.take x y) ∧ (0 : Int) = (↑x : Int) ∧ y = y ∧ false = false) ∧ x ≤ (4 : Nat) ∧ ∀ (x_1 : Int), List.Mem x_1 (List.take x y) → (-12 : Int) ≤ x_1 ∧ x_1 ≤ (12 :
  Int)) ∧ ∀ (x : Nat), (x ≤ (4 : Nat) ∧ ∀ (x_1 : Int), List.Mem x_1 (List.take x y) → (-12 : Int) ≤ x_1 ∧ x_1 ≤ (12 : Int)) → IntKind.min IntKind.i64 ≤ (↑x : Int) ∧ (↑x : Int) ≤ IntKind.max IntKind.i64 ∧ IntKind.min
  IntKind.i64 ≤ sumSz (List.take x y) ∧ sumSz (List.take x y) ≤ IntKind.max IntKind.i64 → bif decide ((↑x : Int) < (4 : Int)) then ∀ (b : Bool), decide (List.getD y (Int.toNat (↑x : Int)) (0 : Int) < (-12 : Int)) = b → (((0
  : Int) ≤ (↑x : Int) ∧ (↑x : Int) < (↑(4 : Nat) : Int)) ∧ Int.toNat (↑x : Int) < (4 : Nat) ∧ ((!b) = true → (!b) = true ∧ (0 : Int) ≤ (↑x : Int) ∧ (↑x : Int) < (↑(4 : Nat) : Int)) ∧ ((!b) = true → (!b) = true ∧ Int.toNat
  (↑x : Int) < (4 : Nat)) ∧ ((!b) = true → (!b) = true) ∧ (b = false → (!b) = true)) ∧ bif bif b then true else decide ((12 : Int) < List.getD y (Int.toNat (↑x : Int)) (0 : Int)) then (13 : Int) = pulsesF y else (((0 : Int)
  ≤ (↑x : Int) ∧ (↑x : Int) < (↑(4 : Nat) : Int)) ∧ Int.toNat (↑x : Int) < (4 : Nat)) ∧ ∃ (y_1 : Nat), ((0 : Nat) = (0 : Nat) ∧ IntKind.wrap IntKind.i64 (sumSz (List.take x y) + szR (List.getD y (Int.toNat (↑x : Int)) (0 :
  Int))) = sumSz (List.take y_1 y) ∧ IntKind.wrap IntKind.i64 ((↑x : Int) + (1 : Int)) = (↑y_1 : Int) ∧ y = y ∧ false = false) ∧ (y_1 ≤ (4 : Nat) ∧ ∀ (x : Int), List.Mem x (List.take y_1 y) → (-12 : Int) ≤ x ∧ x ≤ (12 :
  Int)) ∧ (4 : Nat) - y_1 < (4 : Nat) - x else min (sumSz (List.take x y)) (13 : Int) = pulsesF y
theorem vcq19 (y : List Int) : Pq19 y = vcFun Cq19 (annq19 y) Go.Proofs.Try.f19 [⟨.arr 4 (.int .i64), y⟩] [] (outq19 y) := by kernel_rfl

noncomputable def Cq31 : Ctx := ⟨Go.Proofs.Try.prog, D, Gq19, (fun _ _ => none), fun _ => []⟩
def annq31 (y : List Int) : Nat → St → Option Ann := fun id S => match id with | 0 => some ⟨Nat, [1], [0], fun i => [(5, .v (.int .i64) (i : Int)), (3, .v (.int .i64) (sumSz (y.drop i))), (4, .v (.int .i64) (numF y - numF (y.drop i)))], fun _ => [], fun i => i ≤ 4, fun i => 4 - i⟩ | _ => some ⟨Nat, [1, 3, 5], [0], fun t => [(6, .v (.int .i64) (-(S.i 3) + (t : Int))), (4, .v (.int .i64) (S.i 4 + aheadS (3 - (S.i 5).toNat) (S.i 3).toNat (y.getD (S.i 5).toNat 0) t))], fun _ => [], fun t => t ≤ 2 * (S.i 3).toNat + 1, fun t => 2 * (S.i 3).toNat + 1 - t⟩
def outq31 (y : List Int) : COut := ⟨[pulsesF y ≤ 12], .v (.int .i64) (numF y), [], []⟩
def spq31 : Spec := fun args ins => match args, ins with
  | [⟨.arr 4 (.int .i64), y⟩], [] => some (outq31 y)
  | _, _ => none
def Gq31 := addG Gq19 31 spq31
def Pq31 (y : List Int) : Prop :=
  ∃ (x : Nat), (((0 : Nat) = (0 : Nat) ∧ pulsesF y = sumSz (List.drop x y) ∧ (0 : Int) = numF y - numF (List.drop x y) ∧ (0 : Int) = (↑x : Int) ∧ y = y ∧ false = false) ∧ x ≤ (4 : Nat)) ∧ ∀ (x : Nat), x ≤ (4 : Nat) →
  IntKind.min IntKind.i64 ≤ (↑x : Int) ∧ (↑x : Int) ≤ IntKind.max IntKind.i64 ∧ IntKind.min IntKind.i64 ≤ sumSz (List.drop x y) ∧ sumSz (List.drop x y) ≤ IntKind.max IntKind.i64 ∧ IntKind.min IntKind.i64 ≤ numF y - numF
  (List.drop x y) ∧ numF y - numF (List.drop x y) ≤ IntKind.max IntKind.i64 → bif decide ((↑x : Int) < (4 : Int)) then ∃ (x_1 : Nat), (((0 : Nat) = (0 : Nat) ∧ sumSz (List.drop x y) = sumSz (List.drop x y) ∧ numF y - numF
  (List.drop x y) = numF y - numF (List.drop x y) + aheadS ((3 : Nat) - Int.toNat (↑x : Int)) (Int.toNat (sumSz (List.drop x y))) (List.getD y (Int.toNat (↑x : Int)) (0 : Int)) x_1 ∧ (↑x : Int) = (↑x : Int) ∧ IntKind.wrap
  IntKind.i64 ((0 : Int) - sumSz (List.drop x y)) = -sumSz (List.drop x y) + (↑x_1 : Int) ∧ y = y ∧ false = false) ∧ x_1 ≤ (2 : Nat) * Int.toNat (sumSz (List.drop x y)) + (1 : Nat)) ∧ ∀ (x_2 : Nat), x_2 ≤ (2 : Nat) *
  Int.toNat (sumSz (List.drop x y)) + (1 : Nat) → IntKind.min IntKind.i64 ≤ -sumSz (List.drop x y) + (↑x_2 : Int) ∧ -sumSz (List.drop x y) + (↑x_2 : Int) ≤ IntKind.max IntKind.i64 ∧ IntKind.min IntKind.i64 ≤ numF y - numF
  (List.drop x y) + aheadS ((3 : Nat) - Int.toNat (↑x : Int)) (Int.toNat (sumSz (List.drop x y))) (List.getD y (Int.toNat (↑x : Int)) (0 : Int)) x_2 ∧ numF y - numF (List.drop x y) + aheadS ((3 : Nat) - Int.toNat (↑x :
  Int)) (Int.toNat (sumSz (List.drop x y))) (List.getD y (Int.toNat (↑x : Int)) (0 : Int)) x_2 ≤ IntKind.max IntKind.i64 → bif decide (-sumSz (List.drop x y) + (↑x_2 : Int) ≤ sumSz (List.drop x y)) then (((-1000 : Int) ≤
  -sumSz (List.drop x y) + (↑x_2 : Int) ∧ -sumSz (List.drop x y) + (↑x_2 : Int) ≤ (1000 : Int)) ∧ ((0 : Int) ≤ (↑x : Int) ∧ (↑x : Int) < (↑(4 : Nat) : Int)) ∧ Int.toNat (↑x : Int) < (4 : Nat) ∧ (-1000 : Int) ≤ List.getD y
  (Int.toNat (↑x : Int)) (0 : Int) ∧ List.getD y (Int.toNat (↑x : Int)) (0 : Int) ≤ (1000 : Int)) ∧ bif decide (rankI (-sumSz (List.drop x y) + (↑x_2 : Int)) < rankI (List.getD y (Int.toNat (↑x : Int)) (0 : Int))) then ((0
  : Int) ≤ IntKind.wrap IntKind.i64 ((3 : Int) - (↑x : Int)) ∧ IntKind.wrap IntKind.i64 ((3 : Int) - (↑x : Int)) ≤ (8 : Int) ∧ (0 : Int) ≤ IntKind.wrap IntKind.i64 (sumSz (List.drop x y) - szR (-sumSz (List.drop x y) +
  (↑x_2 : Int))) ∧ IntKind.wrap IntKind.i64 (sumSz (List.drop x y) - szR (-sumSz (List.drop x y) + (↑x_2 : Int))) ≤ (12 : Int)) ∧ ∃ (y_1 : Nat), ((0 : Nat) = (0 : Nat) ∧ sumSz (List.drop x y) = sumSz (List.drop x y) ∧
  IntKind.wrap IntKind.i64 (numF y - numF (List.drop x y) + aheadS ((3 : Nat) - Int.toNat (↑x : Int)) (Int.toNat (sumSz (List.drop x y))) (List.getD y (Int.toNat (↑x : Int)) (0 : Int)) x_2 + cnt (Int.toNat (IntKind.wrap
  IntKind.i64 ((3 : Int) - (↑x : Int)))) (Int.toNat (IntKind.wrap IntKind.i64 (sumSz (List.drop x y) - szR (-sumSz (List.drop x y) + (↑x_2 : Int)))))) = numF y - numF (List.drop x y) + aheadS ((3 : Nat) - Int.toNat (↑x :
  Int)) (Int.toNat (sumSz (List.drop x y))) (List.getD y (Int.toNat (↑x : Int)) (0 : Int)) y_1 ∧ (↑x : Int) = (↑x : Int) ∧ IntKind.wrap IntKind.i64 (-sumSz (List.drop x y) + (↑x_2 : Int) + (1 : Int)) = -sumSz (List.drop x
  y) + (↑y_1 : Int) ∧ y = y ∧ false = false) ∧ y_1 ≤ (2 : Nat) * Int.toNat (sumSz (List.drop x y)) + (1 : Nat) ∧ (2 : Nat) * Int.toNat (sumSz (List.drop x y)) + (1 : Nat) - y_1 < (2 : Nat) * Int.toNat (sumSz (List.drop x
  y)) + (1 : Nat) - x_2 else ∃ (y_1 : Nat), ((0 : Nat) = (0 : Nat) ∧ sumSz (List.drop x y) = sumSz (List.drop x y) ∧ numF y - numF (List.drop x y) + aheadS ((3 : Nat) - Int.toNat (↑x : Int)) (Int.toNat (sumSz (List.drop x
  y))) (List.getD y (Int.toNat (↑x : Int)) (0 : Int)) x_2 = numF y - numF (List.drop x y) + aheadS ((3 : Nat) - Int.toNat (↑x : Int)) (Int.toNat (sumSz (List.drop x y))) (List.getD y (Int.toNat (↑x : Int)) (0 : Int)) y_1 ∧
  (↑x : Int) = (↑x : Int) ∧ IntKind.wrap IntKind.i64 (-sumSz (List.drop x y) + (↑x_2 : Int) + (1 : Int)) = -sumSz (List.drop x y) + (↑y_1 : Int) ∧ y = y ∧ false = false) ∧ y_1 ≤ (2 : Nat) * Int.toNat (sumSz (List.drop x y))
  + (1 : Nat) ∧ (2 : Nat) * Int.toNat (sumSz (List.drop x y)) + (1 : Nat) - y_1 < (2 : Nat) * Int.toNat (sumSz (List.drop x y)) + (1 : Nat) - x_2 else (((0 : Int) ≤ (↑x : Int) ∧ (↑x : Int) < (↑(4 : Nat) : Int)) ∧ Int.toNat
  (↑x : Int) < (4 : Nat)) ∧ ∃ (y_1 : Nat), ((0 : Nat) = (0 : Nat) ∧ IntKind.wrap IntKind.i64 (sumSz (List.drop x y) - szR (List.getD y (Int.toNat (↑x : Int)) (0 : Int))) = sumSz (List.drop y_1 y) ∧ numF y - numF (List.drop
  x y) + aheadS ((3 : Nat) - Int.toNat (↑x : Int)) (Int.toNat (sumSz (List.drop x y))) (List.getD y (Int.toNat (↑x : Int)) (0 : Int)) x_2 = numF y - numF (List.drop y_1 y) ∧ IntKind.wrap IntKind.i64 ((↑x : Int) + (1 : Int))
  = (↑y_1 : Int) ∧ y = y ∧ false = false) ∧ y_1 ≤ (4 : Nat) ∧ (4 : Nat) - y_1 < (4 : Nat) - x else numF y - numF (List.drop x y) = numF y
theorem vcq31 (y : List Int) : Pq31 y = vcFun Cq31 (annq31 y) Go.Proofs.Try.f31 [⟨.arr 4 (.int .i64), y⟩] [] (outq31 y) := by kernel_rfl

noncomputable def Cq9 : Ctx := ⟨Go.Proofs.Try.prog, D, Gq31, (fun _ _ => none), fun _ => []⟩
def annq9 (s : List Int × List (List Int)) (n : Int) : Nat → St → Option Ann := fun _ _ => some ⟨Nat, [2, 5], [0, 1], fun i => [(6, .v (.int .i64) (i : Int))], fun _ => [], fun i => i ≤ 8 ∧ ((List.range i).all fun b => decide (pulsesF (s.2.getD b (List.replicate 4 0)) = (refF s.1 (8 * n - 64)).getD b 0)) = true, fun i => 8 - i⟩
def outq9 (s : List Int × List (List Int)) (n : Int) : COut := ⟨[], .v .bool (packR s n), [], []⟩
def spq9 : Spec := fun args ins => match args, ins with
  | [⟨(.cons (.arr 8 (.int .i64)) (.last (.arr 8 (.arr 4 (.int .i64))))), s⟩, ⟨.int .i64, n⟩], [] => some (outq9 s n)
  | _, _ => none
def Gq9 := addG Gq31 9 spq9
def Pq9 (s : List Int × List (List Int)) (n : Int) : Prop :=
  ∀ (b : Bool), decide (n < (12 : Int)) = b → bif bif b then true else decide ((24 : Int) < n) then (((!b) = true → (!b) = true) ∧ (b = false → (!b) = true) ∧ (true = false → false = true)) ∧ false = packR s n else (((!b) =
  true → (!b) = true) ∧ (b = false → (!b) = true)) ∧ bif !rightF (Prod.fst s) then false = packR s n else (rightF (Prod.fst s) = true ∧ (0 : Int) ≤ IntKind.wrap IntKind.i64 (IntKind.wrap IntKind.i64 ((8 : Int) * n) - (64 :
  Int)) ∧ IntKind.wrap IntKind.i64 (IntKind.wrap IntKind.i64 ((8 : Int) * n) - (64 : Int)) ≤ (1048576 : Int)) ∧ ∃ (x : Nat), (((0 : Nat) = (0 : Nat) ∧ (0 : Nat) = (0 : Nat) ∧ (0 : Int) = (↑x : Int) ∧ Prod.fst s = Prod.fst s
  ∧ Prod.snd s = Prod.snd s ∧ false = false ∧ refF (Prod.fst s) (IntKind.wrap IntKind.i64 (IntKind.wrap IntKind.i64 ((8 : Int) * n) - (64 : Int))) = refF (Prod.fst s) (IntKind.wrap IntKind.i64 (IntKind.wrap IntKind.i64 ((8
  : Int) * n) - (64 : Int))) ∧ false = false) ∧ x ≤ (8 : Nat) ∧ (List.all (List.range.loop x []) fun (b : Nat) => decide (pulsesF (List.getD (Prod.snd s) b (List.replicate (4 : Nat) (0 : Int))) = List.getD (refF (Prod.fst
  s) ((8 : Int) * n - (64 : Int))) b (0 : Int))) = true) ∧ ∀ (x : Nat), x ≤ (8 : Nat) ∧ (List.all (List.range.loop x []) fun (b : Nat) => decide (pulsesF (List.getD (Prod.snd s) b (List.replicate (4 : Nat) (0 : Int))) =
  List.getD (refF (Prod.fst s) ((8 : Int) * n - (64 : Int))) b (0 : Int))) = true → IntKind.min IntKind.i64 ≤ (↑x : Int) ∧ (↑x : Int) ≤ IntKind.max IntKind.i64 → bif decide ((↑x : Int) < (8 : Int)) then (((0 : Int) ≤ (↑x :
  Int) ∧ (↑x : Int) < (↑(8 : Nat) : Int)) ∧ Int.toNat (↑x : Int) < (8 : Nat) ∧ ((0 : Int) ≤ (↑x : Int) ∧ (↑x : Int) < (↑(8 : Nat) : Int)) ∧ Int.toNat (↑x : Int) < (8 : Nat)) ∧ bif !decide (pulsesF (List.getD (Prod.snd s)
  (Int.toNat (↑x : Int)) (List.replicate (4 : Nat) (0 : Int))) = List.getD (refF (Prod.fst s) (IntKind.wrap IntKind.i64 (IntKind.wrap IntKind.i64 ((8 : Int) * n) - (64 : Int)))) (Int.toNat (↑x : Int)) (0 : Int)) then false
  = packR s n else ∃ (y : Nat), ((0 : Nat) = (0 : Nat) ∧ (0 : Nat) = (0 : Nat) ∧ IntKind.wrap IntKind.i64 ((↑x : Int) + (1 : Int)) = (↑y : Int) ∧ Prod.fst s = Prod.fst s ∧ Prod.snd s = Prod.snd s ∧ false = false ∧ refF
  (Prod.fst s) (IntKind.wrap IntKind.i64 (IntKind.wrap IntKind.i64 ((8 : Int) * n) - (64 : Int))) = refF (Prod.fst s) (IntKind.wrap IntKind.i64 (IntKind.wrap IntKind.i64 ((8 : Int) * n) - (64 : Int))) ∧ false = false) ∧ (y
  ≤ (8 : Nat) ∧ (List.all (List.range.loop y []) fun (b : Nat) => decide (pulsesF (List.getD (Prod.snd s) b (List.replicate (4 : Nat) (0 : Int))) = List.getD (refF (Prod.fst s) ((8 : Int) * n - (64 : Int))) b (0 : Int))) =
  true) ∧ (8 : Nat) - y < (8 : Nat) - x else true = packR s n
theorem vcq9 (s : List Int × List (List Int)) (n : Int) : Pq9 s n = vcFun Cq9 (annq9 s n) Go.Proofs.Try.f9 [⟨(.cons (.arr 8 (.int .i64)) (.last (.arr 8 (.arr 4 (.int .i64))))), s⟩, ⟨.int .i64, n⟩] [] (outq9 s n) := by kernel_rfl

noncomputable def Cq12 : Ctx := ⟨Go.Proofs.Try.prog, D, Gq9, (fun _ _ => none), fun _ => []⟩
def annq12 (f : Int) (s : List Int × List (List Int)) (n : Int) : Nat → St → Option Ann := fun id _ => match id with | 0 => some ⟨Nat, [2, 4], [0], fun i => [(8, .v (.int .i64) (i : Int)), (7, .v (.ref .slice) (.slice 2 (.int .i64) [] 0 (16 + 4 * i)))], fun i => [(2, some ⟨false, false, .int .i64, bitsN f 16 ++ sideB (s.1.take i)⟩)], fun i => i ≤ 8, fun i => 8 - i⟩ | 2 => some ⟨Nat, [2, 4], [0], fun i => [(9, .v (.int .i64) (i : Int)), (7, .v (.ref .slice) (.slice 3 (.int .i64) [] 0 (bitsN f 16 ++ sideB s.1 ++ rowsB (s.2.take i)).length))], fun i => [(3, some ⟨false, false, .int .i64, bitsN f 16 ++ sideB s.1 ++ rowsB (s.2.take i)⟩)], fun i => i ≤ 8, fun i => 8 - i⟩ | _ => some ⟨Nat, [2], [], fun m => [(7, .v (.ref .slice) (.slice 4 (.int .i64) [] 0 ((layB f s).length + m)))], fun m => [(4, some ⟨false, false, .int .i64, layB f s ++ List.replicate m 0⟩)], fun m => ((layB f s).length + m : Int) ≤ 8 * n - 16, fun m => (8 * n - 16).toNat - ((layB f s).length + m)⟩
def outq12 (f : Int) (s : List Int × List (List Int)) (n : Int) : COut := ⟨[0 ≤ f ∧ f ≤ 65535, packR s n = true], .v .str (bytesOf (layS f s n)), [], []⟩
def spq12 : Spec := fun args ins => match args, ins with
  | [⟨.int .i64, f⟩, ⟨(.cons (.arr 8 (.int .i64)) (.last (.arr 8 (.arr 4 (.int .i64))))), s⟩, ⟨.int .i64, n⟩], [] => some (outq12 f s n)
  | _, _ => none
def Gq12 := addG Gq9 12 spq12
def Pq12 (f : Int) (s : List Int × List (List Int)) (n : Int) : Prop :=
  ((0 : Int) ≤ f ∧ (0 : Int) ≤ (16 : Int) ∧ (16 : Int) ≤ (100 : Int)) ∧ ∃ (x : Nat), ((n = n ∧ (0 : Nat) = (0 : Nat) ∧ (0 : Nat) = (0 : Nat) ∧ (16 : Nat) = (16 : Nat) + (4 : Nat) * x ∧ (0 : Int) = (↑x : Int) ∧ Prod.fst s =
  Prod.fst s ∧ Prod.snd s = Prod.snd s ∧ false = false ∧ bitsN f (16 : Nat) = bitsN f (16 : Nat) ++ sideB (List.take x (Prod.fst s)) ∧ false = false) ∧ x ≤ (8 : Nat)) ∧ ∀ (x : Nat), x ≤ (8 : Nat) → (IntKind.min IntKind.i64
  ≤ (↑x : Int) ∧ (↑x : Int) ≤ IntKind.max IntKind.i64 ∧ ∀ (y : Int), List.Mem y (bitsN f (16 : Nat) ++ sideB (List.take x (Prod.fst s))) → IntKind.min IntKind.i64 ≤ y ∧ y ≤ IntKind.max IntKind.i64) → bif decide ((↑x : Int)
  < (8 : Int)) then (((0 : Int) ≤ (↑x : Int) ∧ (↑x : Int) < (↑(8 : Nat) : Int)) ∧ Int.toNat (↑x : Int) < (8 : Nat) ∧ (0 : Int) ≤ List.getD (Prod.fst s) (Int.toNat (↑x : Int)) (0 : Int) ∧ ((0 : Int) ≤ (4 : Int) ∧ (4 : Int) ≤
  (100 : Int)) ∧ (4 : Nat) ≤ List.length (bitsN (List.getD (Prod.fst s) (Int.toNat (↑x : Int)) (0 : Int)) (4 : Nat)) ∧ (0 : Nat) + ((16 : Nat) + (4 : Nat) * x) = List.length (f / (2 : Int) ^ (15 : Nat) % (2 : Int) ::
  List.append (List.map (fun (i : Nat) => f / (2 : Int) ^ ((15 : Nat) - i) % (2 : Int)) [nat_lit 1, nat_lit 2, nat_lit 3, nat_lit 4, nat_lit 5, nat_lit 6, nat_lit 7, nat_lit 8, nat_lit 9, nat_lit 10, nat_lit 11, nat_lit 12,
  nat_lit 13, nat_lit 14, nat_lit 15]) (sideB (List.take x (Prod.fst s)))) ∧ ((16 : Nat) + (4 : Nat) * x + List.length (seg (bitsN (List.getD (Prod.fst s) (Int.toNat (↑x : Int)) (0 : Int)) (4 : Nat)) (0 : Nat) (4 : Nat))) *
  (8 : Nat) ≤ (70368744177664 : Nat)) ∧ ∃ (y : Nat), (n = n ∧ (0 : Nat) = (0 : Nat) ∧ (0 : Nat) = (0 : Nat) ∧ (16 : Nat) + (4 : Nat) * x + List.length (seg (bitsN (List.getD (Prod.fst s) (Int.toNat (↑x : Int)) (0 : Int)) (4
  : Nat)) (0 : Nat) (4 : Nat)) = (16 : Nat) + (4 : Nat) * y ∧ IntKind.wrap IntKind.i64 ((↑x : Int) + (1 : Int)) = (↑y : Int) ∧ Prod.fst s = Prod.fst s ∧ Prod.snd s = Prod.snd s ∧ false = false ∧ f / (2 : Int) ^ (15 : Nat) %
  (2 : Int) :: List.append (List.append (List.map (fun (i : Nat) => f / (2 : Int) ^ ((15 : Nat) - i) % (2 : Int)) [nat_lit 1, nat_lit 2, nat_lit 3, nat_lit 4, nat_lit 5, nat_lit 6, nat_lit 7, nat_lit 8, nat_lit 9, nat_lit
  10, nat_lit 11, nat_lit 12, nat_lit 13, nat_lit 14, nat_lit 15]) (sideB (List.take x (Prod.fst s)))) (seg (bitsN (List.getD (Prod.fst s) (Int.toNat (↑x : Int)) (0 : Int)) (4 : Nat)) (0 : Nat) (4 : Nat)) = bitsN f (16 :
  Nat) ++ sideB (List.take y (Prod.fst s)) ∧ false = false) ∧ y ≤ (8 : Nat) ∧ (8 : Nat) - y < (8 : Nat) - x else ∃ (x_1 : Nat), ((n = n ∧ (0 : Nat) = (0 : Nat) ∧ (0 : Nat) = (0 : Nat) ∧ (16 : Nat) + (4 : Nat) * x =
  List.length (bitsN f (16 : Nat) ++ sideB (Prod.fst s) ++ rowsB (List.take x_1 (Prod.snd s))) ∧ (0 : Int) = (↑x_1 : Int) ∧ Prod.fst s = Prod.fst s ∧ Prod.snd s = Prod.snd s ∧ false = false ∧ f / (2 : Int) ^ (15 : Nat) % (2
  : Int) :: List.append (List.map (fun (i : Nat) => f / (2 : Int) ^ ((15 : Nat) - i) % (2 : Int)) [nat_lit 1, nat_lit 2, nat_lit 3, nat_lit 4, nat_lit 5, nat_lit 6, nat_lit 7, nat_lit 8, nat_lit 9, nat_lit 10, nat_lit 11,
  nat_lit 12, nat_lit 13, nat_lit 14, nat_lit 15]) (sideB (List.take x (Prod.fst s))) = bitsN f (16 : Nat) ++ sideB (Prod.fst s) ++ rowsB (List.take x_1 (Prod.snd s)) ∧ false = false) ∧ x_1 ≤ (8 : Nat)) ∧ ∀ (x : Nat), x ≤
  (8 : Nat) → (IntKind.min IntKind.i64 ≤ (↑x : Int) ∧ (↑x : Int) ≤ IntKind.max IntKind.i64 ∧ ∀ (y : Int), List.Mem y (bitsN f (16 : Nat) ++ sideB (Prod.fst s) ++ rowsB (List.take x (Prod.snd s))) → IntKind.min IntKind.i64 ≤
  y ∧ y ≤ IntKind.max IntKind.i64) → bif decide ((↑x : Int) < (8 : Int)) then (((0 : Int) ≤ (↑x : Int) ∧ (↑x : Int) < (↑(8 : Nat) : Int)) ∧ Int.toNat (↑x : Int) < (8 : Nat) ∧ pulsesF (List.getD (Prod.snd s) (Int.toNat (↑x :
  Int)) (List.replicate (4 : Nat) (0 : Int))) ≤ (12 : Int) ∧ ((0 : Int) ≤ (↑x : Int) ∧ (↑x : Int) < (↑(8 : Nat) : Int)) ∧ Int.toNat (↑x : Int) < (8 : Nat) ∧ ((0 : Int) ≤ pulsesF (List.getD (Prod.snd s) (Int.toNat (↑x :
  Int)) (List.replicate (4 : Nat) (0 : Int))) ∧ pulsesF (List.getD (Prod.snd s) (Int.toNat (↑x : Int)) (List.replicate (4 : Nat) (0 : Int))) ≤ (12 : Int)) ∧ (0 : Int) ≤ numF (List.getD (Prod.snd s) (Int.toNat (↑x : Int))
  (List.replicate (4 : Nat) (0 : Int))) ∧ ((0 : Int) ≤ bitsF (pulsesF (List.getD (Prod.snd s) (Int.toNat (↑x : Int)) (List.replicate (4 : Nat) (0 : Int)))) ∧ bitsF (pulsesF (List.getD (Prod.snd s) (Int.toNat (↑x : Int))
  (List.replicate (4 : Nat) (0 : Int)))) ≤ (100 : Int)) ∧ (0 : Nat) + Int.toNat (bitsF (pulsesF (List.getD (Prod.snd s) (Int.toNat (↑x : Int)) (List.replicate (4 : Nat) (0 : Int))))) ≤ List.length (bitsN (numF (List.getD
  (Prod.snd s) (Int.toNat (↑x : Int)) (List.replicate (4 : Nat) (0 : Int)))) (Int.toNat (bitsF (pulsesF (List.getD (Prod.snd s) (Int.toNat (↑x : Int)) (List.replicate (4 : Nat) (0 : Int))))))) ∧ (0 : Nat) + List.length
  (bitsN f (16 : Nat) ++ sideB (Prod.fst s) ++ rowsB (List.take x (Prod.snd s))) = List.length (f / (2 : Int) ^ (15 : Nat) % (2 : Int) :: List.append (List.append (List.map (fun (i : Nat) => f / (2 : Int) ^ ((15 : Nat) - i)
  % (2 : Int)) [nat_lit 1, nat_lit 2, nat_lit 3, nat_lit 4, nat_lit 5, nat_lit 6, nat_lit 7, nat_lit 8, nat_lit 9, nat_lit 10, nat_lit 11, nat_lit 12, nat_lit 13, nat_lit 14, nat_lit 15]) (sideB (Prod.fst s))) (rowsB
  (List.take x (Prod.snd s)))) ∧ (List.length (bitsN f (16 : Nat) ++ sideB (Prod.fst s) ++ rowsB (List.take x (Prod.snd s))) + List.length (seg (bitsN (numF (List.getD (Prod.snd s) (Int.toNat (↑x : Int)) (List.replicate (4
  : Nat) (0 : Int)))) (Int.toNat (bitsF (pulsesF (List.getD (Prod.snd s) (Int.toNat (↑x : Int)) (List.replicate (4 : Nat) (0 : Int))))))) (0 : Nat) (Int.toNat (bitsF (pulsesF (List.getD (Prod.snd s) (Int.toNat (↑x : Int))
  (List.replicate (4 : Nat) (0 : Int)))))))) * (8 : Nat) ≤ (70368744177664 : Nat)) ∧ ∃ (y : Nat), (n = n ∧ (0 : Nat) = (0 : Nat) ∧ (0 : Nat) = (0 : Nat) ∧ List.length (bitsN f (16 : Nat) ++ sideB (Prod.fst s) ++ rowsB
  (List.take x (Prod.snd s))) + List.length (seg (bitsN (numF (List.getD (Prod.snd s) (Int.toNat (↑x : Int)) (List.replicate (4 : Nat) (0 : Int)))) (Int.toNat (bitsF (pulsesF (List.getD (Prod.snd s) (Int.toNat (↑x : Int))
  (List.replicate (4 : Nat) (0 : Int))))))) (0 : Nat) (Int.toNat (bitsF (pulsesF (List.getD (Prod.snd s) (Int.toNat (↑x : Int)) (List.replicate (4 : Nat) (0 : Int))))))) = List.length (bitsN f (16 : Nat) ++ sideB (Prod.fst
  s) ++ rowsB (List.take y (Prod.snd s))) ∧ IntKind.wrap IntKind.i64 ((↑x : Int) + (1 : Int)) = (↑y : Int) ∧ Prod.fst s = Prod.fst s ∧ Prod.snd s = Prod.snd s ∧ false = false ∧ f / (2 : Int) ^ (15 : Nat) % (2 : Int) ::
  List.append (List.append (List.append (List.map (fun (i : Nat) => f / (2 : Int) ^ ((15 : Nat) - i) % (2 : Int)) [nat_lit 1, nat_lit 2, nat_lit 3, nat_lit 4, nat_lit 5, nat_lit 6, nat_lit 7, nat_lit 8, nat_lit 9, nat_lit
  10, nat_lit 11, nat_lit 12, nat_lit 13, nat_lit 14, nat_lit 15]) (sideB (Prod.fst s))) (rowsB (List.take x (Prod.snd s)))) (seg (bitsN (numF (List.getD (Prod.snd s) (Int.toNat (↑x : Int)) (List.replicate (4 : Nat) (0 :
  Int)))) (Int.toNat (bitsF (pulsesF (List.getD (Prod.snd s) (Int.toNat (↑x : Int)) (List.replicate (4 : Nat) (0 : Int))))))) (0 : Nat) (Int.toNat (bitsF (pulsesF (List.getD (Prod.snd s) (Int.toNat (↑x : Int))
  (List.replicate (4 : Nat) (0 : Int))))))) = bitsN f (16 : Nat) ++ sideB (Prod.fst s) ++ rowsB (List.take y (Prod.snd s)) ∧ false = false) ∧ y ≤ (8 : Nat) ∧ (8 : Nat) - y < (8 : Nat) - x else ∃ (x_2 : Nat), ((n = n ∧ (0 :
  Nat) = (0 : Nat) ∧ List.length (bitsN f (16 : Nat) ++ sideB (Prod.fst s) ++ rowsB (List.take x (Prod.snd s))) = List.length (layB f s) + x_2 ∧ f / (2 : Int) ^ (15 : Nat) % (2 : Int) :: List.append (List.append (List.map
  (fun (i : Nat) => f / (2 : Int) ^ ((15 : Nat) - i) % (2 : Int)) [nat_lit 1, nat_lit 2, nat_lit 3, nat_lit 4, nat_lit 5, nat_lit 6, nat_lit 7, nat_lit 8, nat_lit 9, nat_lit 10, nat_lit 11, nat_lit 12, nat_lit 13, nat_lit
  14, nat_lit 15]) (sideB (Prod.fst s))) (rowsB (List.take x (Prod.snd s))) = layB f s ++ List.replicate x_2 (0 : Int) ∧ false = false) ∧ (↑(List.length (layB f s)) : Int) + (↑x_2 : Int) ≤ (8 : Int) * n - (16 : Int)) ∧ ∀ (x
  : Nat), (↑(List.length (layB f s)) : Int) + (↑x : Int) ≤ (8 : Int) * n - (16 : Int) → (∀ (y : Int), List.Mem y (layB f s ++ List.replicate x (0 : Int)) → IntKind.min IntKind.i64 ≤ y ∧ y ≤ IntKind.max IntKind.i64) → bif
  decide ((↑(List.length (layB f s) + x) : Int) < IntKind.wrap IntKind.i64 (IntKind.wrap IntKind.i64 ((8 : Int) * n) - (16 : Int))) then ((1 : Nat) ≤ (1 : Nat) ∧ (0 : Nat) + (List.length (layB f s) + x) = List.length (f /
  (2 : Int) ^ (15 : Nat) % (2 : Int) :: List.append (List.append (List.append (List.map (fun (i : Nat) => f / (2 : Int) ^ ((15 : Nat) - i) % (2 : Int)) [nat_lit 1, nat_lit 2, nat_lit 3, nat_lit 4, nat_lit 5, nat_lit 6,
  nat_lit 7, nat_lit 8, nat_lit 9, nat_lit 10, nat_lit 11, nat_lit 12, nat_lit 13, nat_lit 14, nat_lit 15]) (sideB (Prod.fst s))) (rowsB (Prod.snd s))) (List.replicate x (0 : Int))) ∧ (List.length (layB f s) + x + (1 :
  Nat)) * (8 : Nat) ≤ (70368744177664 : Nat)) ∧ ∃ (y : Nat), (n = n ∧ (0 : Nat) = (0 : Nat) ∧ List.length (layB f s) + x + (1 : Nat) = List.length (layB f s) + y ∧ f / (2 : Int) ^ (15 : Nat) % (2 : Int) :: List.append
  (List.append (List.append (List.append (List.map (fun (i : Nat) => f / (2 : Int) ^ ((15 : Nat) - i) % (2 : Int)) [nat_lit 1, nat_lit 2, nat_lit 3, nat_lit 4, nat_lit 5, nat_lit 6, nat_lit 7, nat_lit 8, nat_lit 9, nat_lit
  10, nat_lit 11, nat_lit 12, nat_lit 13, nat_lit 14, nat_lit 15]) (sideB (Prod.fst s))) (rowsB (Prod.snd s))) (List.replicate x (0 : Int))) (seg ((0 : Int) :: List.replicate (nat_lit 0) (0 : Int)) (0 : Nat) (1 : Nat)) =
  layB f s ++ List.replicate y (0 : Int) ∧ false = false) ∧ (↑(List.length (layB f s)) : Int) + (↑y : Int) ≤ (8 : Int) * n - (16 : Int) ∧ Int.toNat ((8 : Int) * n - (16 : Int)) - (List.length (layB f s) + y) < Int.toNat ((8
  : Int) * n - (16 : Int)) - (List.length (layB f s) + x) else (List.length (layB f s) + x = List.length (layB f s ++ List.replicate x (0 : Int)) ∧ Bit (layB f s ++ List.replicate x (0 : Int)) ∧ List.length (layB f s ++
  List.replicate x (0 : Int)) ≤ (100000 : Nat)) ∧ (((0 : Int) ≤ (65535 : Int) ∧ (65535 : Int) < (65536 : Int)) ∧ ByteArray.size (bytesOf (packB (layB f s ++ List.replicate x (0 : Int)))) ≤ (1000 : Nat)) ∧ ((256 : Int) ≠ (0
  : Int) ∧ (256 : Int) ≠ (0 : Int) ∧ (2 : Nat) ≤ (2 : Nat) ∧ ByteArray.size (bytesOf (packB (layB f s ++ List.replicate x (0 : Int)))) + ByteArray.size (bytesOf (seg (IntKind.wrap IntKind.u8 (IntKind.wrap IntKind.i64
  (Int.tdiv (sumI (65535 : Int) (ofBytes (bytesOf (packB (layB f s ++ List.replicate x (0 : Int)))))) (256 : Int))) :: List.set (List.replicate (nat_lit 1) (0 : Int)) (nat_lit 0) (IntKind.wrap IntKind.u8 (Int.tmod (sumI
  (65535 : Int) (ofBytes (bytesOf (packB (layB f s ++ List.replicate x (0 : Int)))))) (256 : Int)))) (0 : Nat) (2 : Nat))) ≤ (9223372036854775807 : Nat)) ∧ ByteArray.append (bytesOf (packB (layB f s ++ List.replicate x (0 :
  Int)))) (bytesOf (seg (IntKind.wrap IntKind.u8 (IntKind.wrap IntKind.i64 (Int.tdiv (sumI (65535 : Int) (ofBytes (bytesOf (packB (layB f s ++ List.replicate x (0 : Int)))))) (256 : Int))) :: List.set (List.replicate
  (nat_lit 1) (0 : Int)) (nat_lit 0) (IntKind.wrap IntKind.u8 (Int.tmod (sumI (65535 : Int) (ofBytes (bytesOf (packB (layB f s ++ List.replicate x (0 : Int)))))) (256 : Int)))) (0 : Nat) (2 : Nat))) = bytesOf (layS f s n)
theorem vcq12 (f : Int) (s : List Int × List (List Int)) (n : Int) : Pq12 f s n = vcFun Cq12 (annq12 f s n) Go.Proofs.Try.f12 [⟨.int .i64, f⟩, ⟨(.cons (.arr 8 (.int .i64)) (.last (.arr 8 (.arr 4 (.int .i64))))), s⟩, ⟨.int .i64, n⟩] [] (outq12 f s n) := by kernel_rfl

noncomputable def Cq15 : Ctx := ⟨Go.Proofs.Try.prog, D, Gq12, (fun _ _ => none), fun _ => []⟩
def annq15 (_s : ByteArray) : Nat → St → Option Ann := fun _ _ => none
def outq15 (s : ByteArray) : COut := ⟨[], .tup [⟨.int .i64, (readV s).1⟩, ⟨.bool, decide (readE s = 0)⟩], [], []⟩
def spq15 : Spec := fun args ins => match args, ins with
  | [⟨.str, s⟩], [] => some (outq15 s)
  | _, _ => none
def Gq15 := addG Gq12 15 spq15
def Pq15 (s : ByteArray) : Prop :=
  Prod.fst (readV s) = Prod.fst (readV s) ∧ decide (readE s = (0 : Int)) = decide (readE s = (0 : Int))
theorem vcq15 (s : ByteArray) : Pq15 s = vcFun Cq15 (annq15 s) Go.Proofs.Try.f15 [⟨.str, s⟩] [] (outq15 s) := by kernel_rfl

end Go.SL.A

/- The document's packets: proofs. -/
namespace Go.SL.A
open Go Go.SL Go.SL.S
set_option maxRecDepth 100000

theorem pureq61 (x : Int) (hp : -1000 ≤ x ∧ x ≤ 1000) : Pq61 x := by
  unfold Pq61 rankI
  by_cases h : 0 < x
  · rw [decide_eq_true h, cond_true, if_pos h, w64 (n := 2 * x) (by omega) (by omega), w64 (by omega) (by omega)]
  · rw [decide_eq_false h, cond_false, if_neg h, w64 (by omega) (by omega)]
theorem pureq15 (s : ByteArray) : Pq15 s := by
  unfold Pq15; exact ⟨rfl, rfl⟩
theorem half_upq (x : Int) (j : Nat) : x / 2 ^ j / 2 = x / 2 ^ (j + 1) := by
  rw [Int.ediv_ediv_of_nonneg (Int.le_of_lt (Int.pow_pos (by decide))), Int.pow_succ]
theorem bitsN_drop (x : Int) {n j : Nat} (h : j < n) : (bitsN x n).drop (n - j - 1) = (x / 2 ^ j % 2) :: (bitsN x n).drop (n - j) := by
  have hl := bitsN_len x n
  have e : (bitsN x n)[n - j - 1]'(by omega) = x / 2 ^ j % 2 := by
    have := bitsN_at x (n := n) (i := n - j - 1) (by omega)
    rw [List.getElem?_eq_getElem (by omega)] at this
    have := Option.some.inj this
    rw [this, show n - 1 - (n - j - 1) = j by omega]
  rw [← List.getElem_cons_drop (i := n - j - 1) (by omega), e, show n - j - 1 + 1 = n - j by omega]
theorem pureq30 (x n : Int) (hx : 0 ≤ x) (hn : 0 ≤ n ∧ n ≤ 100) : Pq30 x n := by
  unfold Pq30
  simp only [eq_self, true_and, and_true, Nat.zero_add]
  have hl := bitsN_len x n.toNat
  refine ⟨⟨hn.1, by omega, by omega⟩, 0, ⟨⟨by rw [Int.pow_zero, Int.ediv_one], by rw [w64 (by omega) (by omega)]; omega, by rw [Nat.sub_zero, List.drop_of_length_le (by omega), List.append_nil]⟩, by omega⟩, fun j hj hw => ?_⟩
  obtain ⟨w1, w2, -, -, -⟩ := hw
  have hp : 0 ≤ x / 2 ^ j := Int.ediv_nonneg hx (Int.le_of_lt (Int.pow_pos (by decide)))
  have hu : x / 2 ^ j ≤ 9223372036854775807 := w2
  by_cases h : 0 ≤ n - 1 - (j : Int)
  · rw [decide_eq_true h, cond_true]
    have ht : (n - 1 - (j : Int)).toNat = n.toNat - j - 1 := by omega
    rw [ht]
    refine ⟨⟨by decide, ⟨h, by omega⟩, by rw [List.length_append, List.length_replicate, List.length_drop]; omega⟩, by decide, j + 1, ⟨?_, ?_, ?_⟩, by omega, by omega⟩
    · rw [Int.tdiv_eq_ediv_of_nonneg hp, half_upq, w64 (by have : 0 ≤ x / 2 ^ (j + 1) := Int.ediv_nonneg hx (Int.le_of_lt (Int.pow_pos (by decide))); omega) (by rw [← half_upq]; omega)]
    · rw [w64 (by omega) (by omega)]; omega
    · rw [Int.tmod_eq_emod_of_nonneg hp, show n.toNat - (j + 1) = n.toNat - j - 1 by omega, bitsN_drop x (by omega), show n.toNat - j = (n.toNat - j - 1) + 1 by omega, List.replicate_succ', List.append_assoc, List.set_append_right _ _ (by rw [List.length_replicate]; omega), List.length_replicate, Nat.add_sub_cancel, Nat.sub_self]
      rfl
  · rw [decide_eq_false h, cond_false]
    have e : n.toNat - j = 0 := by omega
    rw [e]
    rfl
theorem hwq19 {y : List Int} (hw : Go.SL.allP (List.flatMap (fun a : AV => a.t.wf a.x) [⟨.arr 4 (.int .i64), y⟩] ++ List.flatMap Blk.wf [])) : y.length = 4 := by
  simp only [List.flatMap_cons, List.flatMap_nil, Ty.wf, List.append_nil, Go.SL.allP] at hw
  exact hw.1
theorem szR_in {x : Int} (h : -1000 ≤ x ∧ x ≤ 1000) : szR x = max x (-x) := by
  unfold szR
  split
  · rw [w64 (by omega) (by omega)]; omega
  · omega
theorem pureq19 (y : List Int) (hl : y.length = 4) : Pq19 y := by
  unfold Pq19
  simp only [eq_self, true_and, and_true, Int.toNat_natCast]
  refine ⟨0, ⟨⟨rfl, rfl⟩, by omega, fun x hx => by cases hx⟩, fun i hi => ?_⟩
  rintro -
  obtain ⟨hi, ha⟩ := hi
  have hs := sumSz_le (y.take i)
  have hli : (y.take i).length = i := by rw [List.length_take]; omega
  have hb4 : 0 ≤ sumSz (y.take i) ∧ sumSz (y.take i) ≤ 52 := by omega
  by_cases h : (i : Int) < 4
  · rw [decide_eq_true h, cond_true]
    have ht : y.take (i + 1) = y.take i ++ [y.getD i 0] := take_snoc' 0 (by omega)
    have hd : sumSz y = sumSz (y.take i) + sumSz (y.drop i) := by rw [← sumSz_append, List.take_append_drop]
    have hd0 := sumSz_le (y.drop (i + 1))
    have hd2 : sumSz (y.drop i) = sz13 (y.getD i 0) + sumSz (y.drop (i + 1)) := by
      have : y.drop i = y.getD i 0 :: y.drop (i + 1) := by
        rw [List.getD_eq_getElem?_getD, List.getElem?_eq_getElem (by omega), Option.getD_some, List.getElem_cons_drop]
      rw [this]; rfl
    have big : (y.getD i 0 < -12 ∨ 12 < y.getD i 0) → 13 = pulsesF y := fun hb => by
      have e : sz13 (y.getD i 0) = 13 := by unfold sz13; rw [if_pos hb]
      unfold pulsesF; rw [if_neg (by omega)]; omega
    rintro b rfl
    by_cases c1 : y.getD i 0 < -12
    · rw [decide_eq_true c1]
      refine ⟨⟨⟨by omega, by omega⟩, by omega, by simp, by simp, by simp, by simp⟩, ?_⟩
      rw [cond_true, cond_true]; exact big (.inl c1)
    · rw [decide_eq_false c1]
      refine ⟨⟨⟨by omega, by omega⟩, by omega, fun _ => ⟨rfl, by omega, by omega⟩, fun _ => ⟨rfl, by omega⟩, by simp, by simp⟩, ?_⟩
      rw [cond_false]
      by_cases c2 : 12 < y.getD i 0
      · rw [decide_eq_true c2, cond_true]; exact big (.inr c2)
      · rw [decide_eq_false c2, cond_false]
        have e : sz13 (y.getD i 0) = max (y.getD i 0) (-(y.getD i 0)) := by unfold sz13; rw [if_neg (by omega)]
        have hs1 : sumSz [y.getD i 0] = sz13 (y.getD i 0) := by show sz13 _ + 0 = _; omega
        refine ⟨⟨⟨by omega, by omega⟩, by omega⟩, i + 1, ⟨?_, step_i (by omega)⟩, ⟨by omega, fun x hx => ?_⟩, by omega⟩
        · rw [szR_in (by omega), ht, sumSz_append, hs1, e, w64 (by omega) (by omega)]
        · rw [ht] at hx
          rcases List.mem_append.1 hx with hx | hx
          · exact ha x hx
          · rw [List.mem_singleton] at hx; subst hx; omega
  · have : i = 4 := by omega
    subst this
    rw [decide_eq_false h, cond_false, List.take_of_length_le (by omega)]
    unfold pulsesF; rw [if_neg (by omega)]
theorem byteTo_fit {L : List Int} (h : Bit L) (i : Nat) : ∀ k, k ≤ 8 → 0 ≤ byteTo L i k ∧ byteTo L i k < 2 ^ k
  | 0, _ => ⟨Int.le_refl 0, Int.one_pos⟩
  | k + 1, hk => by
    have ih := byteTo_fit h i k (by omega)
    have hb := bit_01 h (8 * i + k)
    rw [byteTo, Int.pow_succ]; omega
theorem byteTo_all (L : List Int) (i : Nat) : byteTo L i 8 = byteB L i := by
  simp only [byteTo, byteB, Nat.add_zero]; omega
theorem segq1 (w : Int) : seg (w :: List.replicate 0 0) 0 1 = [w] := rfl
theorem pureq33 (r : Bool) (n : Nat) (l : List Int) (hn : n = l.length) (hb : Bit l) (hlen : l.length ≤ 100000) : Pq33 r n l := by
  unfold Pq33
  subst hn
  simp only [eq_self, true_and, and_true, Nat.zero_add]
  have hl := packB_len l
  have h255 : ∀ i k, k ≤ 8 → 0 ≤ byteTo l i k ∧ byteTo l i k ≤ 255 := fun i k hk => by
    have := byteTo_fit hb i k hk
    have : (2 : Int) ^ k ≤ 2 ^ 8 := by
      obtain ⟨d, hd⟩ : ∃ d, 8 = k + d := ⟨8 - k, by omega⟩
      rw [hd, Int.pow_add]
      have h1 : (0 : Int) < 2 ^ k := Int.pow_pos (by decide)
      have h2 : (0 : Int) < 2 ^ d := Int.pow_pos (by decide)
      have h3 : (2 : Int) ^ k * 1 ≤ 2 ^ k * 2 ^ d := Int.mul_le_mul_of_nonneg_left h2 (Int.le_of_lt h1)
      rw [Int.mul_one] at h3; exact h3
    have : (2 : Int) ^ 8 = 256 := by decide
    omega
  refine ⟨0, ⟨⟨rfl, by simp, rfl⟩, by omega⟩, fun a ha hw => ?_⟩
  obtain ⟨w1, w2, -⟩ := hw
  have hu : 8 * (a : Int) ≤ 9223372036854775807 := w2
  have ht : (8 * (a : Int)).toNat / 8 = a := by omega
  rw [ht]
  by_cases h : 8 * (a : Int) < (l.length : Int)
  · rw [decide_eq_true h, cond_true]
    refine ⟨0, ⟨⟨rfl, rfl⟩, by omega⟩, fun k hk => ?_⟩
    rintro -
    have hf := h255 a k hk
    by_cases h8 : (k : Int) < 8
    · rw [decide_eq_true h8, cond_true]
      have hf1 := h255 a (k + 1) (by omega)
      have hg := bit_01 hb (8 * a + k)
      have e1 : IntKind.i64.wrap (8 * (a : Int) + (k : Int)) = ((8 * a + k : Nat) : Int) := by rw [w64 (by omega) (by omega)]; omega
      rw [e1]
      by_cases hin : ((8 * a + k : Nat) : Int) < (l.length : Int)
      · rw [decide_eq_true hin, cond_true, Int.toNat_natCast]
        refine ⟨⟨⟨by omega, hin⟩, by omega⟩, k + 1, ⟨?_, step_i (by omega)⟩, by omega, by omega⟩
        rw [w64 (n := 2 * byteTo l a k) (by omega) (by omega), w64 (by omega) (by omega)]; rfl
      · rw [decide_eq_false hin, cond_false]
        refine ⟨k + 1, ⟨?_, step_i (by omega)⟩, by omega, by omega⟩
        rw [w64 (n := 2 * byteTo l a k) (by omega) (by omega), byteTo, getD_end (by omega)]; omega
    · have : k = 8 := by omega
      subst this
      rw [decide_eq_false h8, cond_false, byteTo_all]
      have hbb := byteB_fit hb a
      have e : IntKind.u8.wrap (byteB l a) = byteB l a := by
        simp only [IntKind.wrap, IntKind.bits, IntKind.signed]
        simp <;> omega
      rw [e]
      have ht2 : (packB l).take (a + 1) = (packB l).take a ++ [byteB l a] := by
        rw [take_snoc' 0 (by omega), packB_getD l (by omega)]
      refine ⟨⟨by omega, by rw [List.length_take]; omega, ?_⟩, a + 1, ⟨?_, ?_, ?_⟩, by omega, by omega⟩
      · rw [segq1]; simp; omega
      · rw [segq1]; rfl
      · rw [w64 (by omega) (by omega)]; omega
      · rw [segq1, ht2, List.drop_zero]; rfl
  · rw [decide_eq_false h, cond_false]
    have e : (packB l).take a = packB l := List.take_of_length_le (by omega)
    rw [e]
    refine ⟨by omega, ?_⟩
    unfold seg
    rw [List.drop_zero, List.take_of_length_le (by omega)]
theorem pureq9 (s : List Int × List (List Int)) (n : Int) (_hl : s.2.length = 8 ∧ ∀ y ∈ s.2, y.length = 4) : Pq9 s n := by
  unfold Pq9
  have bad : (n < 12 ∨ 24 < n) → false = packR s n := fun h => by
    have : giveB n = 0 := by unfold giveB; rw [if_pos (by omega)]
    unfold packR; rw [if_pos (Or.inl this)]
  rintro b rfl
  by_cases c1 : n < 12
  · rw [decide_eq_true c1]
    exact ⟨by simp, bad (.inl c1)⟩
  · rw [decide_eq_false c1, cond_false]
    by_cases c2 : 24 < n
    · rw [decide_eq_true c2, cond_true]
      exact ⟨by simp, bad (.inr c2)⟩
    · rw [decide_eq_false c2, cond_false]
      refine ⟨by simp, ?_⟩
      cases hr : rightF s.1 with
      | false =>
        rw [Bool.not_false, cond_true]
        unfold packR; rw [if_pos (Or.inr hr)]
      | true =>
        rw [Bool.not_true, cond_false]
        have hB : giveB n = 8 * n - 64 := giveB_eq ⟨by omega, by omega⟩
        have e1 : IntKind.i64.wrap (IntKind.i64.wrap (8 * n) - 64) = 8 * n - 64 := by rw [w64 (n := 8 * n) (by omega) (by omega), w64 (by omega) (by omega)]
        rw [e1]
        have e : packR s n = (List.range 8).all fun b => decide (pulsesF (s.2.getD b (List.replicate 4 0)) = (refF s.1 (8 * n - 64)).getD b 0) := by
          have hv : giveV s.1 (8 * n - 64) = refF s.1 (8 * n - 64) := by
            have he : giveE s.1 (8 * n - 64) = 0 := by unfold giveE; rw [if_neg (by rw [hr]; simp; omega)]
            unfold giveV
            rw [if_pos he]
            exact give_eq s.1 (by omega)
          unfold packR; rw [if_neg (by rw [hr, hB]; simp; omega), hB, hv]
        rw [e]
        generalize refF s.1 (8 * n - 64) = k
        simp only [eq_self, true_and, and_true, Int.toNat_natCast]
        refine ⟨⟨by omega, by omega⟩, 0, ⟨rfl, by omega, rfl⟩, fun i hi hw => ?_⟩
        clear hw
        obtain ⟨hi, ho⟩ := hi
        have ho : ((List.range i).all fun b => decide (pulsesF (s.2.getD b (List.replicate 4 0)) = k.getD b 0)) = true := ho
        by_cases h : (i : Int) < 8
        · rw [decide_eq_true h, cond_true]
          refine ⟨⟨⟨by omega, by omega⟩, by omega, ⟨by omega, by omega⟩, by omega⟩, ?_⟩
          cases hc : decide (pulsesF (s.2.getD i (List.replicate 4 0)) = k.getD i 0) with
          | true =>
            rw [Bool.not_true, cond_false]
            refine ⟨i + 1, step_i (by omega), ⟨by omega, ?_⟩, by omega⟩
            show ((List.range (i + 1)).all _) = true
            rw [List.range_succ, List.all_append, ho]
            simp
            exact of_decide_eq_true hc
          | false =>
            rw [Bool.not_false, cond_true]
            symm
            rw [List.all_eq_false]
            exact ⟨i, List.mem_range.2 (by omega), by rw [hc]; simp⟩
        · have : i = 8 := by omega
          subst this
          rw [decide_eq_false h, cond_false, ho]
theorem ahead_nn (n K : Nat) (v : Int) (t : Nat) : 0 ≤ (if rankI (-(K : Int) + (t : Int)) < rankI v then cnt n (K - (absI (-(K : Int) + (t : Int))).toNat) else 0) := by
  split
  · exact (cnt_le _ _).1
  · exact Int.le_refl 0
theorem ahead_mono (n K : Nat) (v : Int) (t : Nat) : ∀ d, aheadS n K v t ≤ aheadS n K v (t + d)
  | 0 => Int.le_refl _
  | d + 1 => by
    have := ahead_mono n K v t d
    have := ahead_nn n K v (t + d)
    rw [← Nat.add_assoc, aheadS]; omega
theorem ahead_zero (n K : Nat) (v : Int) (t : Nat) : 0 ≤ aheadS n K v t := by
  have := ahead_mono n K v 0 t
  rw [Nat.zero_add] at this; exact this
theorem drop_cons {y : List Int} {i : Nat} (h : i < y.length) : y.drop i = y.getD i 0 :: y.drop (i + 1) := by
  rw [List.getD_eq_getElem?_getD, List.getElem?_eq_getElem h, Option.getD_some, List.getElem_cons_drop]
theorem pureq31 (y : List Int) (hp : pulsesF y ≤ 12) (hl : y.length = 4) : Pq31 y := by
  have hq : sumSz y ≤ 12 := by unfold pulsesF at hp; rw [if_neg (by omega)] at hp; omega
  have hpe : pulsesF y = sumSz y := by unfold pulsesF; rw [if_neg (by omega)]; omega
  have hN := numF_lt hq
  have hC := (cnt_le y.length (sumSz y).toNat).2
  unfold Pq31
  simp only [eq_self, true_and, and_true, Int.toNat_natCast]
  refine ⟨0, ⟨⟨by rw [hpe]; rfl, by rw [List.drop_zero, Int.sub_self], rfl⟩, by omega⟩, fun i hi => ?_⟩
  rintro -
  have hK := sumSz_drop y i
  have hK0 := (sumSz_le (y.drop i)).1
  have hNi := numF_lt (y := y.drop i) (by omega)
  have hle := numF_drop_le hq i
  by_cases h : (i : Int) < 4
  · rw [decide_eq_true h, cond_true]
    have hd := drop_cons (y := y) (i := i) (by omega)
    have hst := num_step (x := y.getD i 0) (ys := y.drop (i + 1)) (by rw [← hd]; omega)
    rw [← hd] at hst
    have hlen : (y.drop (i + 1)).length = 3 - i := by rw [List.length_drop]; omega
    rw [hlen] at hst
    have hs0 := sumSz_le (y.drop (i + 1))
    have hsum : sumSz (y.drop i) = sz13 (y.getD i 0) + sumSz (y.drop (i + 1)) := by rw [hd]; rfl
    have hv := sz13_le12 (x := y.getD i 0) (by omega)
    have hN1 := numF_lt (y := y.drop (i + 1)) (by have := sumSz_drop y (i + 1); omega)
    clear hd
    generalize sumSz (y.drop i) = K at hst hsum hK hK0 hNi ⊢
    have h81 : ((3 ^ (y.length + (sumSz y).toNat) : Nat) : Int) ≤ 43046721 := by
      have : (3 : Nat) ^ (y.length + (sumSz y).toNat) ≤ 3 ^ 16 := Nat.pow_le_pow_right (by decide) (by omega)
      have e : (3 : Nat) ^ 16 = 43046721 := by decide
      omega
    obtain ⟨k, rfl⟩ : ∃ k : Nat, K = (k : Int) := ⟨K.toNat, by omega⟩
    rw [Int.toNat_natCast] at hst ⊢
    refine ⟨0, ⟨⟨by rw [show aheadS (3 - i) k (y.getD i 0) 0 = 0 from rfl]; omega, by rw [w64 (by omega) (by omega)]; omega⟩, by omega⟩, fun t ht => ?_⟩
    rintro -
    have hm := ahead_mono (3 - i) k (y.getD i 0) t (2 * k + 1 - t)
    rw [show t + (2 * k + 1 - t) = 2 * k + 1 by omega] at hm
    have hz := ahead_zero (3 - i) k (y.getD i 0) t
    by_cases ht2 : -(k : Int) + (t : Int) ≤ (k : Int)
    · rw [decide_eq_true ht2, cond_true]
      refine ⟨⟨⟨by omega, by omega⟩, ⟨by omega, by omega⟩, by omega, by omega, by omega⟩, ?_⟩
      have hnx : aheadS (3 - i) k (y.getD i 0) (t + 1) = aheadS (3 - i) k (y.getD i 0) t + if rankI (-(k : Int) + (t : Int)) < rankI (y.getD i 0) then cnt (3 - i) (k - (absI (-(k : Int) + (t : Int))).toNat) else 0 := rfl
      have hm1 := ahead_mono (3 - i) k (y.getD i 0) (t + 1) (2 * k + 1 - (t + 1))
      rw [show t + 1 + (2 * k + 1 - (t + 1)) = 2 * k + 1 by omega] at hm1
      have hstep : IntKind.i64.wrap (-(k : Int) + (t : Int) + 1) = -(k : Int) + ((t + 1 : Nat) : Int) := by rw [w64 (by omega) (by omega)]; omega
      by_cases hr : rankI (-(k : Int) + (t : Int)) < rankI (y.getD i 0)
      · rw [decide_eq_true hr, cond_true]
        rw [if_pos hr] at hnx
        have ha : szR (-(k : Int) + (t : Int)) = absI (-(k : Int) + (t : Int)) := by
          rw [szR_in (by omega)]; unfold absI; split <;> omega
        have hab : 0 ≤ absI (-(k : Int) + (t : Int)) ∧ absI (-(k : Int) + (t : Int)) ≤ k := by unfold absI; split <;> omega
        rw [ha]
        generalize absI (-(k : Int) + (t : Int)) = z at *
        have e1 : IntKind.i64.wrap (3 - (i : Int)) = ((3 - i : Nat) : Int) := by rw [w64 (by omega) (by omega)]; omega
        have e2 : IntKind.i64.wrap ((k : Int) - z) = ((k - z.toNat : Nat) : Int) := by rw [w64 (by omega) (by omega)]; omega
        rw [e1, e2, Int.toNat_natCast, Int.toNat_natCast]
        refine ⟨⟨by omega, by omega, by omega, by omega⟩, t + 1, ⟨?_, hstep⟩, by omega, by omega⟩
        have hq0 := (cnt_le (3 - i) (k - z.toNat)).1
        rw [hnx, w64 (by omega) (by omega)]; omega
      · rw [decide_eq_false hr, cond_false]
        rw [if_neg hr, Int.add_zero] at hnx
        exact ⟨t + 1, ⟨by rw [hnx], hstep⟩, by omega, by omega⟩
    · have : t = 2 * k + 1 := by omega
      subst this
      rw [decide_eq_false ht2, cond_false]
      refine ⟨⟨⟨by omega, by omega⟩, by omega⟩, i + 1, ⟨?_, ?_, step_i (by omega)⟩, by omega, by omega⟩
      · rw [szR_in (by omega), w64 (by omega) (by omega)]
        have e : sz13 (y.getD i 0) = max (y.getD i 0) (-(y.getD i 0)) := by unfold sz13; rw [if_neg (by omega)]
        omega
      · omega
  · have : i = 4 := by omega
    subst this
    rw [decide_eq_false h, cond_false, List.drop_of_length_le (by omega)]
    show numF y - 0 = _
    omega
theorem hwq12 {f n : Int} {s : List Int × List (List Int)} (hw : Go.SL.allP (List.flatMap (fun a : AV => a.t.wf a.x) [⟨.int .i64, f⟩, ⟨(.cons (.arr 8 (.int .i64)) (.last (.arr 8 (.arr 4 (.int .i64))))), s⟩, ⟨.int .i64, n⟩] ++ List.flatMap Blk.wf [])) : s.1.length = 8 ∧ s.2.length = 8 ∧ ∀ y ∈ s.2, y.length = 4 := by
  simp only [List.flatMap_cons, List.flatMap_nil, Ty.wf, List.append_nil, List.cons_append, List.nil_append, Go.SL.allP] at hw
  exact ⟨hw.2.2.1, hw.2.2.2.2.1, fun y hy => (hw.2.2.2.2.2.1 y hy).1⟩
theorem seg_all {l : List Int} {n : Nat} (h : n = l.length) : seg l 0 n = l := by
  unfold seg; rw [List.drop_zero, List.take_of_length_le (by omega)]
theorem bits_small : ∀ k : Fin 13, bitsF ((k.val : Nat) : Int) ≤ 40 := by decide +kernel
theorem bits_le {k : Int} (h : 0 ≤ k ∧ k ≤ 12) : bitsF k ≤ 40 := by
  have := bits_small ⟨k.toNat, by omega⟩
  rwa [show (((⟨k.toNat, by omega⟩ : Fin 13).val : Nat) : Int) = k from (by show ((k.toNat : Nat) : Int) = k; omega)] at this
theorem pureq12 (f : Int) (s : List Int × List (List Int)) (n : Int) (hf : 0 ≤ f ∧ f ≤ 65535) (hR : packR s n = true) (hl : s.1.length = 8 ∧ s.2.length = 8 ∧ ∀ y ∈ s.2, y.length = 4) : Pq12 f s n := by
  obtain ⟨l1, l8, l4⟩ := hl
  have R := packR_iff.1 hR
  have hn := R.sz
  obtain ⟨g1, g2, g3⟩ := give_fit R.rt hn
  have hall := layB_all (f := f) R l1 l8
  have hlen := layB_len (f := f) R l1 l8
  have hL : ((layB f s).length : Int) ≤ 8 * (n - 2) := by rw [hall]; exact g3
  have hmono := fun b (hb : b ≤ 8) => offK_mono (giveV s.1 (giveB n)) hb
  have hrow : ∀ b, b < 8 → (s.2.getD b (List.replicate 4 0)).length = 4 ∧ pulsesF (s.2.getD b (List.replicate 4 0)) = (giveV s.1 (giveB n)).getD b 0 := fun b hb => ⟨l4 _ (getD_mem (by omega)), R.row b hb⟩
  unfold Pq12
  simp only [eq_self, true_and, and_true, Int.toNat_natCast, Nat.zero_add]
  refine ⟨⟨hf.1, by omega, by omega⟩, 0, ⟨⟨by omega, rfl, ?_⟩, by omega⟩, fun i hi => ?_⟩
  · show bitsN f 16 = bitsN f 16 ++ []
    rw [List.append_nil]
  rintro -
  by_cases h : (i : Int) < 8
  · rw [decide_eq_true h, cond_true]
    have hr := right_at R.rt i
    have hsl : (sideB (s.1.take i)).length = 4 * i := by rw [sideB_len, List.length_take]; omega
    have hal : (bitsN f 16 ++ sideB (s.1.take i)).length = 16 + 4 * i := by rw [List.length_append, bitsN_len, hsl]
    rw [seg_all (n := 4) (bitsN_len _ _).symm, bitsN_len]
    refine ⟨⟨⟨by omega, by omega⟩, by omega, hr.1, ⟨by omega, by omega⟩, by omega, hal.symm, by omega⟩, i + 1, ⟨by omega, step_i (by omega), ?_⟩, by omega, by omega⟩
    show bitsN f 16 ++ sideB (s.1.take i) ++ bitsN (s.1.getD i 0) 4 = _
    rw [sideB_take s.1 (by omega), List.append_assoc]
  · have : i = 8 := by omega
    subst this
    rw [decide_eq_false h, cond_false]
    have e8 : s.1.take 8 = s.1 := List.take_of_length_le (by omega)
    rw [e8]
    have hx0 : (bitsN f 16 ++ sideB s.1 ++ rowsB (s.2.take 0)).length = 48 := hlen 0 (by omega)
    refine ⟨0, ⟨⟨by omega, rfl, ?_⟩, by omega⟩, fun b hb => ?_⟩
    · show bitsN f 16 ++ sideB s.1 = bitsN f 16 ++ sideB s.1 ++ []
      rw [List.append_nil]
    rintro -
    have hlb := hlen b hb
    have hmb := hmono b hb
    by_cases h : (b : Int) < 8
    · rw [decide_eq_true h, cond_true]
      obtain ⟨r4, rp⟩ := hrow b (by omega)
      obtain ⟨gk1, gk2⟩ := g2 b (by omega)
      have hix := index_row r4 ⟨gk1, gk2⟩ rp
      have hnum : (indexF (s.2.getD b (List.replicate 4 0))).1 = numF (s.2.getD b (List.replicate 4 0)) := by rw [(index_ok hix.2.2.2.2).2.2.2.1]
      rw [hnum] at hix
      have hbk := hlen (b + 1) (by omega)
      have hmb1 := hmono (b + 1) (by omega)
      have hrowB : rowB (s.2.getD b (List.replicate 4 0)) = bitsN (numF (s.2.getD b (List.replicate 4 0))) (bitsF (pulsesF (s.2.getD b (List.replicate 4 0)))).toNat := by
        unfold rowB bitsK; rw [hnum]
      have htk : rowsB (s.2.take (b + 1)) = rowsB (s.2.take b) ++ rowB (s.2.getD b (List.replicate 4 0)) := rowsB_take s.2 (by omega)
      rw [rp]
      rw [rp] at hrowB
      have hcb := cost_bits ((giveV s.1 (giveB n)).getD b 0)
      have hbl : (bitsF ((giveV s.1 (giveB n)).getD b 0)).toNat ≤ 100 := by
        have := bits_le ⟨gk1, gk2⟩
        omega
      generalize hkb : bitsF ((giveV s.1 (giveB n)).getD b 0) = c at *
      rw [seg_all (n := c.toNat) (bitsN_len _ _).symm, bitsN_len]
      have hlb1 : (bitsN f 16 ++ sideB s.1 ++ rowsB (s.2.take (b + 1))).length = (bitsN f 16 ++ sideB s.1 ++ rowsB (s.2.take b)).length + c.toNat := by
        rw [htk, hrowB, ← List.append_assoc, List.length_append, bitsN_len]
      refine ⟨⟨⟨by omega, by omega⟩, by omega, by omega, ⟨by omega, by omega⟩, by omega, ⟨by omega, by omega⟩, hix.1, ⟨by omega, by omega⟩, by omega, rfl, by omega⟩, b + 1, ⟨by omega, step_i (by omega), ?_⟩, by omega, by omega⟩
      show bitsN f 16 ++ sideB s.1 ++ rowsB (s.2.take b) ++ bitsN _ _ = _
      rw [htk, hrowB, ← List.append_assoc]
    · have : b = 8 := by omega
      subst this
      rw [decide_eq_false h, cond_false]
      have e8 : s.2.take 8 = s.2 := List.take_of_length_le (by omega)
      rw [e8]
      have ew : IntKind.i64.wrap (IntKind.i64.wrap (8 * n) - 16) = 8 * n - 16 := by rw [w64 (n := 8 * n) (by omega) (by omega), w64 (by omega) (by omega)]
      rw [ew]
      refine ⟨0, ⟨⟨rfl, by show layB f s = layB f s ++ []; rw [List.append_nil]⟩, by omega⟩, fun m hm => ?_⟩
      rintro -
      have hlm : (layB f s ++ List.replicate m 0).length = (layB f s).length + m := by rw [List.length_append, List.length_replicate]
      by_cases h : (((layB f s).length + m : Nat) : Int) < 8 * n - 16
      · rw [decide_eq_true h, cond_true]
        refine ⟨⟨by omega, hlm.symm, by omega⟩, m + 1, ⟨by omega, ?_⟩, by omega, by omega⟩
        show layB f s ++ List.replicate m 0 ++ [0] = _
        rw [List.append_assoc, ← List.replicate_succ']
      · rw [decide_eq_false h, cond_false]
        have hB : Bit (layB f s ++ List.replicate m 0) := bit_app (layB_bit f s) (bit_zero _)
        have hP := packB_byt hB
        have hpl := packB_len (layB f s ++ List.replicate m 0)
        have hm2 : m = 8 * (n - 2).toNat - (layB f s).length := by omega
        have hbe := body_eq (f := f) hn.1 hL
        rw [← hm2] at hbe
        rw [ofBytes_bytes hP, sum_div (by omega), bytes_size]
        have hc := crcS_fit (xs := packB (layB f s ++ List.replicate m 0)) (r := 65535) (by omega)
        have hls : layS f s n = packB (layB f s ++ List.replicate m 0) ++ [crcS 65535 (packB (layB f s ++ List.replicate m 0)) / 256, crcS 65535 (packB (layB f s ++ List.replicate m 0)) % 256] := by
          unfold layS sealS; rw [hbe]
        rw [hls]
        generalize crcS 65535 (packB (layB f s ++ List.replicate m 0)) = c at *
        have w8 : ∀ x : Int, 0 ≤ x → x ≤ 255 → IntKind.u8.wrap x = x := fun x h1 h2 => by
          simp only [IntKind.wrap, IntKind.bits, IntKind.signed]
          simp <;> omega
        have e1 : IntKind.u8.wrap (IntKind.i64.wrap (c.tdiv 256)) = c / 256 := by
          rw [Int.tdiv_eq_ediv_of_nonneg hc.1, w64 (by omega) (by omega), w8 _ (by omega) (by omega)]
        have e2 : IntKind.u8.wrap (c.tmod 256) = c % 256 := by
          rw [Int.tmod_eq_emod_of_nonneg hc.1, w8 _ (by omega) (by omega)]
        rw [e1, e2]
        have e3 : seg (c / 256 :: List.set (List.replicate 1 0) 0 (c % 256)) 0 2 = [c / 256, c % 256] := rfl
        rw [e3, bytes_size, bytes_app]
        exact ⟨⟨hlm.symm, hB, by omega⟩, ⟨⟨by omega, by omega⟩, by omega⟩, ⟨by decide, by decide, by omega, by show _ + 2 ≤ _; omega⟩, rfl⟩
end Go.SL.A

/- The document's check: the code by division. -/
namespace Go.SL.A
open Go Go.SL Go.SL.S
set_option maxRecDepth 100000

theorem unB_nil : unB [] = [] := rfl
theorem unB_app : ∀ xs ys : List Int, unB (xs ++ ys) = unB xs ++ unB ys
  | [], ys => rfl
  | x :: xs, ys => by rw [List.cons_append, unB_cons, unB_cons, unB_app xs ys, List.append_assoc]
theorem unB_one (c : Int) : unB [c] = bitsN c 8 := by rw [unB_cons, unB_nil, List.append_nil]
theorem bitsTo_zero (s : ByteArray) : bitsTo s 0 0 = [] := rfl
theorem bitsTo_next {s : ByteArray} {i : Nat} (h : i < ByteArray.size s) : bitsTo s (i + 1) 0 = bitsTo s i 8 := by
  have hl := ofBytes_len s
  unfold bitsTo
  rw [take_snoc' (l := ofBytes s) 0 (by omega), unB_app, unB_one, ← byte_get, List.take_zero, List.append_nil, List.take_of_length_le (l := bitsN _ 8) (by rw [bitsN_len]; omega)]
theorem bitsTo_step (s : ByteArray) (i : Nat) {k : Nat} (h : k < 8) : bitsTo s i (k + 1) = bitsTo s i k ++ [byteAt s i / 2 ^ (7 - k) % 2] := by
  unfold bitsTo
  rw [take_snoc' 0 (by rw [bitsN_len]; exact h), ← List.append_assoc, bitsN_getD _ h]
theorem bitsTo_len {s : ByteArray} {i k : Nat} (hi : i ≤ ByteArray.size s) (hk : k ≤ 8) : (bitsTo s i k).length = 8 * i + k := by
  have hl := ofBytes_len s
  unfold bitsTo
  rw [List.length_append, unB_len, List.length_take, List.length_take, bitsN_len]; omega
theorem bitsTo_all (s : ByteArray) : bitsTo s (ByteArray.size s) 0 = unB (ofBytes s) := by
  have hl := ofBytes_len s
  unfold bitsTo
  rw [List.take_of_length_le (by omega), List.take_zero, List.append_nil]
theorem p128 : ∀ k : Fin 8, (128 : Int) / 2 ^ k.val = 2 ^ (7 - k.val) ∧ (1 : Int) ≤ 128 / 2 ^ k.val ∧ IntKind.i64.wrap (((128 : Int) / 2 ^ k.val).tdiv 2) = 128 / 2 ^ (k.val + 1) := by decide
theorem p32768 : ∀ k : Fin 16, (32768 : Int) / 2 ^ k.val = 2 ^ (15 - k.val) ∧ (32768 : Int) / 2 ^ k.val ≠ 0 ∧ IntKind.i64.wrap (((32768 : Int) / 2 ^ k.val).tdiv 2) = 32768 / 2 ^ (k.val + 1) := by decide
theorem reg_zero (r : Int) (L : List Int) : regI r L 0 = L := by
  refine ext_getD (by unfold regI; rw [List.length_map, List.length_range]) fun p hp => ?_
  rw [reg_getD r 0 (by unfold regI at hp; rw [List.length_map, List.length_range] at hp; exact hp), if_neg (by omega)]
theorem reg_len (r : Int) (L : List Int) (n : Nat) : (regI r L n).length = L.length := by unfold regI; rw [List.length_map, List.length_range]
theorem reg_step (r : Int) {L : List Int} {i : Nat} (h : i < L.length) : List.set (regI r L i) i ((L.getD i 0 + r / 2 ^ (15 - i)) % 2) = regI r L (i + 1) := by
  have hl := reg_len r L
  refine ext_getD (by rw [List.length_set, hl, hl]) fun p hp => ?_
  rw [List.length_set, hl] at hp
  rw [set_getD' (by rw [hl]; exact h), reg_getD r _ hp, reg_getD r _ hp]
  by_cases e : p = i
  · subst e; rw [if_pos rfl, if_pos (by omega)]
  · rw [if_neg e]
    by_cases c : p < i
    · rw [if_pos c, if_pos (by omega)]
    · rw [if_neg c, if_neg (by omega)]
theorem reg_bit {r : Int} {L : List Int} (h : Bit L) (n : Nat) : Bit (regI r L n) := fun x hx => by
  unfold regI at hx
  obtain ⟨p, -, rfl⟩ := List.mem_map.1 hx
  split
  · omega
  · exact bit_at h p
theorem flip_bit {L : List Int} (h : Bit L) (p : Nat) : Bit (flipI L p) := fun x hx => by
  unfold flipI at hx
  rcases List.mem_or_eq_of_mem_set hx with hx | rfl
  · exact h x hx
  · have := bit_at h p; omega
theorem div_bit {L : List Int} (h : Bit L) (i : Nat) : Bit (divI L i) := by
  unfold divI
  split
  · refine flip_bit (flip_bit (flip_bit (fun x hx => ?_) _) _) _
    rcases List.mem_or_eq_of_mem_set hx with hx | rfl
    · exact h x hx
    · exact .inl rfl
  · exact h
theorem divs_bit {L : List Int} (h : Bit L) : ∀ n, Bit (divsI L n)
  | 0 => h
  | n + 1 => by rw [divs_succ]; exact div_bit (divs_bit h n) n
theorem divs_len (L : List Int) : ∀ n, (divsI L n).length = L.length
  | 0 => rfl
  | n + 1 => by rw [divs_succ, div_len, divs_len L n]
theorem numTo_eq (L : List Int) (a : Nat) : ∀ k, a + k ≤ L.length → numTo19 L a k = numB ((L.drop a).take k)
  | 0, _ => by rw [List.take_zero]; rfl
  | k + 1, h => by
    rw [numTo19, numTo_eq L a k (by omega), take_snoc' 0 (by rw [List.length_drop]; omega), numB_snoc, getD_drop']
theorem numTo_fit {L : List Int} (h : Bit L) (a : Nat) : ∀ k, k ≤ 16 → 0 ≤ numTo19 L a k ∧ numTo19 L a k < 2 ^ k
  | 0, _ => ⟨Int.le_refl 0, Int.one_pos⟩
  | k + 1, hk => by
    have ih := numTo_fit h a k (by omega)
    have hb := bit_01 h (a + k)
    rw [numTo19, Int.pow_succ]; omega
theorem pureq16 (r : Int) (s : ByteArray) (hr : 0 ≤ r ∧ r < 65536) (hs : ByteArray.size s ≤ 1000) : Pq16 r s := by
  have er : Int.tmod r 65536 = r := by rw [Int.tmod_eq_emod_of_nonneg hr.1]; omega
  have hlen := ofBytes_len s
  have hbyt := ofBytes_byt s
  have hul : (unB (ofBytes s)).length = 8 * ByteArray.size s := by rw [unB_len, hlen]
  have hdl : (dataI (ofBytes s)).length = 8 * ByteArray.size s + 16 := by rw [data_len, hlen]
  have hdb := data_bit (ofBytes s)
  unfold Pq16
  rw [er]
  refine ⟨by decide, ?_⟩
  rw [decide_eq_false (show ¬ r < 0 by omega), cond_false]
  simp only [eq_self, true_and, and_true, Nat.zero_add, Int.toNat_natCast]
  refine ⟨0, ⟨⟨rfl, rfl, rfl⟩, by omega⟩, fun i hi => ?_⟩
  rintro -
  have hb := byte_01 s i
  by_cases h : (i : Int) < (ByteArray.size s : Int)
  · rw [decide_eq_true h, cond_true]
    refine ⟨0, ⟨⟨rfl, by decide, rfl⟩, by omega⟩, fun k hk => ?_⟩
    rintro -
    have hbl := bitsTo_len (s := s) (i := i) (k := k) (by omega) hk
    by_cases h8 : k < 8
    · obtain ⟨e1, e2, e3⟩ := p128 ⟨k, h8⟩
      have e1 : (128 : Int) / 2 ^ k = 2 ^ (7 - k) := e1
      have e2 : (1 : Int) ≤ 128 / 2 ^ k := e2
      have e3 : IntKind.i64.wrap (((128 : Int) / 2 ^ k).tdiv 2) = 128 / 2 ^ (k + 1) := e3
      rw [decide_eq_true e2, cond_true]
      have hp : (0 : Int) < 2 ^ (7 - k) := Int.pow_pos (by decide)
      have hq : 0 ≤ byteAt s i / 2 ^ (7 - k) ∧ byteAt s i / 2 ^ (7 - k) ≤ 255 := ⟨Int.ediv_nonneg hb.1 (Int.le_of_lt hp), Int.le_trans (Int.ediv_le_self _ hb.1) hb.2⟩
      have ev : Int.tmod (IntKind.i64.wrap (Int.tdiv (IntKind.i64.wrap (byteAt s i)) (128 / 2 ^ k))) 2 = byteAt s i / 2 ^ (7 - k) % 2 := by
        rw [w64 (n := byteAt s i) (by omega) (by omega), e1, Int.tdiv_eq_ediv_of_nonneg hb.1, w64 (by omega) (by omega), Int.tmod_eq_emod_of_nonneg hq.1]
      rw [ev, e3, segq1]
      refine ⟨⟨⟨by omega, h⟩, by omega, by decide, by omega, by show (_ + 1) * 8 ≤ _; omega⟩, by decide, k + 1, ⟨?_, rfl, ?_⟩, by omega, by omega⟩
      · rw [bitsTo_step s i h8, List.length_append]
      · rw [bitsTo_step s i h8, List.drop_zero]; rfl
    · have : k = 8 := by omega
      subst this
      rw [decide_eq_false (show ¬ (1 : Int) ≤ 128 / 2 ^ 8 by decide), cond_false]
      have hi2 : i < ByteArray.size s := by omega
      exact ⟨i + 1, ⟨by rw [bitsTo_next hi2], step_i (by omega), by rw [bitsTo_next hi2]⟩, by omega, by omega⟩
  · have : i = ByteArray.size s := by omega
    subst this
    rw [decide_eq_false h, cond_false, bitsTo_all]
    refine ⟨0, ⟨⟨by omega, rfl, by simp⟩, by omega⟩, fun m hm => ?_⟩
    rintro -
    by_cases h : (m : Int) < 16
    · rw [decide_eq_true h, cond_true]
      refine ⟨⟨by omega, by show _ = (unB (ofBytes s) ++ List.replicate m 0).length; rw [List.length_append, List.length_replicate, hul], by omega⟩, m + 1, ⟨by omega, step_i (by omega), ?_⟩, by omega, by omega⟩
      show unB (ofBytes s) ++ List.replicate m 0 ++ [0] = _
      rw [List.append_assoc, ← List.replicate_succ']
    · have : m = 16 := by omega
      subst this
      rw [decide_eq_false h, cond_false]
      refine ⟨0, ⟨⟨rfl, ?_⟩, by omega⟩, fun i hi => ?_⟩
      · rw [reg_zero]; rfl
      rintro -
      have hrl := reg_len r (dataI (ofBytes s)) i
      by_cases h : (i : Int) < 16
      · rw [decide_eq_true h, cond_true]
        refine ⟨0, ⟨⟨by decide, rfl⟩, by omega⟩, fun k hk => ?_⟩
        rintro -
        obtain ⟨e1, e2, e3⟩ := p32768 ⟨k, by omega⟩
        have e1 : (32768 : Int) / 2 ^ k = 2 ^ (15 - k) := e1
        have e2 : (32768 : Int) / 2 ^ k ≠ 0 := e2
        have e3 : IntKind.i64.wrap (((32768 : Int) / 2 ^ k).tdiv 2) = 32768 / 2 ^ (k + 1) := e3
        by_cases hki : (k : Int) < (i : Int)
        · rw [decide_eq_true hki, cond_true]
          exact ⟨by decide, k + 1, ⟨e3, step_i (by omega)⟩, by omega, by omega⟩
        · have : k = i := by omega
          subst this
          rw [decide_eq_false hki, cond_false]
          have hp : (0 : Int) < 2 ^ (15 - k) := Int.pow_pos (by decide)
          have hq : 0 ≤ r / 2 ^ (15 - k) ∧ r / 2 ^ (15 - k) ≤ 65535 := ⟨Int.ediv_nonneg hr.1 (Int.le_of_lt hp), Int.le_trans (Int.ediv_le_self _ hr.1) (by omega)⟩
          have hbt := bit_01 hdb k
          have eg : (regI r (dataI (ofBytes s)) k).getD k 0 = (dataI (ofBytes s)).getD k 0 := by rw [reg_getD r k (by omega), if_neg (by omega)]
          have ev : Int.tmod (IntKind.i64.wrap ((regI r (dataI (ofBytes s)) k).getD k 0 + IntKind.i64.wrap (Int.tdiv r (32768 / 2 ^ k)))) 2 = ((dataI (ofBytes s)).getD k 0 + r / 2 ^ (15 - k)) % 2 := by
            rw [eg, e1, Int.tdiv_eq_ediv_of_nonneg hr.1, w64 (n := r / 2 ^ (15 - k)) (by omega) (by omega), w64 (by omega) (by omega), Int.tmod_eq_emod_of_nonneg (by omega)]
          rw [ev, reg_step r (by omega)]
          exact ⟨⟨⟨by omega, by omega⟩, by omega, e2, by decide, ⟨by omega, by omega⟩, by omega⟩, k + 1, ⟨step_i (by omega), rfl⟩, by omega, by omega⟩
      · have : i = 16 := by omega
        subst this
        rw [decide_eq_false h, cond_false]
        have hrb := reg_bit hdb 16 (r := r)
        have hsum : sumI r (ofBytes s) = numB ((divsI (regI r (dataI (ofBytes s)) 16) (8 * ByteArray.size s)).drop (8 * ByteArray.size s)) := by unfold sumI; rw [hlen]
        rw [hsum]
        generalize regI r (dataI (ofBytes s)) 16 = L at *
        have hL : L.length = 8 * ByteArray.size s + 16 := by omega
        refine ⟨0, ⟨⟨rfl, rfl⟩, by omega⟩, fun i hi => ?_⟩
        rintro -
        have hDl := divs_len L i
        have hDb := divs_bit hrb i
        have ea : ∀ a : Nat, a ≤ 16 → IntKind.i64.wrap ((i : Int) + (a : Int)) = ((i + a : Nat) : Int) := fun a ha => by rw [w64 (by omega) (by omega)]; omega
        have e4 := ea 4 (by omega)
        have e11 := ea 11 (by omega)
        have e16 := ea 16 (by omega)
        have e4 : IntKind.i64.wrap ((i : Int) + 4) = ((i + 4 : Nat) : Int) := e4
        have e11 : IntKind.i64.wrap ((i : Int) + 11) = ((i + 11 : Nat) : Int) := e11
        have e16 : IntKind.i64.wrap ((i : Int) + 16) = ((i + 16 : Nat) : Int) := e16
        rw [e16]
        by_cases h : ((i + 16 : Nat) : Int) < ((8 * ByteArray.size s + 16 : Nat) : Int)
        · rw [decide_eq_true h, cond_true]
          refine ⟨⟨⟨by omega, by omega⟩, by omega⟩, ?_⟩
          by_cases h1 : (divsI L i).getD i 0 = 1
          · rw [decide_eq_true h1, cond_true, e4, e11]
            simp only [Int.toNat_natCast]
            generalize hD : divsI L i = D at *
            have hset : ∀ (M : List Int) (p : Nat), Bit M → IntKind.i64.wrap (1 - M.getD p 0) = 1 - M.getD p 0 := fun M p hM => by
              have := bit_01 hM p
              rw [w64 (by omega) (by omega)]
            have b0 : Bit (List.set D i 0) := fun x hx => by
              rcases List.mem_or_eq_of_mem_set hx with hx | rfl
              · exact hDb x hx
              · exact .inl rfl
            rw [hset _ _ b0]
            have b1 : Bit (flipI (List.set D i 0) (i + 4)) := flip_bit b0 _
            have f1 : List.set (List.set D i 0) (i + 4) (1 - (List.set D i 0).getD (i + 4) 0) = flipI (List.set D i 0) (i + 4) := rfl
            rw [f1, hset _ _ b1]
            have b2 : Bit (flipI (flipI (List.set D i 0) (i + 4)) (i + 11)) := flip_bit b1 _
            have f2 : List.set (flipI (List.set D i 0) (i + 4)) (i + 11) (1 - (flipI (List.set D i 0) (i + 4)).getD (i + 11) 0) = flipI (flipI (List.set D i 0) (i + 4)) (i + 11) := rfl
            rw [f2, hset _ _ b2]
            have f3 : List.set (flipI (flipI (List.set D i 0) (i + 4)) (i + 11)) (i + 16) (1 - (flipI (flipI (List.set D i 0) (i + 4)) (i + 11)).getD (i + 16) 0) = divI D i := by unfold divI; rw [if_pos h1]; rfl
            rw [f3]
            simp only [flip_len, List.length_set]
            refine ⟨⟨⟨by omega, by omega⟩, by omega⟩, ⟨⟨by omega, by omega⟩, by omega, ⟨by omega, by omega⟩, by omega⟩, ⟨⟨by omega, by omega⟩, by omega, ⟨by omega, by omega⟩, by omega⟩, ⟨⟨by omega, by omega⟩, by omega, ⟨by omega, by omega⟩, by omega⟩, i + 1, ⟨step_i (by omega), ?_⟩, by omega, by omega⟩
            rw [divs_succ, hD]
          · rw [decide_eq_false h1, cond_false]
            refine ⟨i + 1, ⟨step_i (by omega), ?_⟩, by omega, by omega⟩
            rw [divs_succ]; unfold divI; rw [if_neg h1]
        · have : i = 8 * ByteArray.size s := by omega
          subst this
          rw [decide_eq_false h, cond_false]
          refine ⟨0, ⟨⟨rfl, by rw [w64 (by omega) (by omega)]; omega⟩, by omega⟩, fun k hk => ?_⟩
          rintro -
          have hf : 0 ≤ numTo19 (divsI L (8 * ByteArray.size s)) (8 * ByteArray.size s) k ∧ numTo19 (divsI L (8 * ByteArray.size s)) (8 * ByteArray.size s) k < 65536 := by
            have := numTo_fit hDb (8 * ByteArray.size s) k hk
            have h2 : (2 : Int) ^ k ≤ 65536 := by
              have : ∀ k : Fin 17, (2 : Int) ^ k.val ≤ 65536 := by decide
              exact this ⟨k, by omega⟩
            omega
          have et : (8 * (ByteArray.size s : Int) + (k : Int)).toNat = 8 * ByteArray.size s + k := by omega
          by_cases h : 8 * (ByteArray.size s : Int) + (k : Int) < ((8 * ByteArray.size s + 16 : Nat) : Int)
          · rw [decide_eq_true h, cond_true, et]
            have hb := bit_01 hDb (8 * ByteArray.size s + k)
            refine ⟨⟨⟨by omega, h⟩, by omega⟩, k + 1, ⟨?_, by rw [w64 (by omega) (by omega)]; omega⟩, by omega, by omega⟩
            rw [w64 (n := 2 * _) (by omega) (by omega), w64 (by omega) (by omega)]; rfl
          · have : k = 16 := by omega
            subst this
            rw [decide_eq_false h, cond_false, numTo_eq _ _ _ (by omega), List.take_of_length_le (by rw [List.length_drop]; omega)]
end Go.SL.A

/- Functions do what they are held to do. -/
namespace Go.SL.A
open Go Go.SL Go.SL.S
theorem sndq61 : Sound Go.Proofs.Try.prog Gq61 := snd83.add ⟨_, Go.Proofs.Try.func61, by kernel_rfl, by kernel_rfl⟩ (by
  intro args ins out h hp
  unfold spq61 at h
  split at h
  · rename_i x
    cases h
    exact vcFun_ok (C := Cq61) good snd83 Meth.none mix Go.Proofs.Try.func61 (annq61 x) (fun hw => by rw [← vcq61 x]; exact pureq61 x hp)
  · cases h)

theorem sndq30 : Sound Go.Proofs.Try.prog Gq30 := sndq61.add ⟨_, Go.Proofs.Try.func30, by kernel_rfl, by kernel_rfl⟩ (by
  intro args ins out h hp
  unfold spq30 at h
  split at h
  · rename_i x n
    cases h
    exact vcFun_ok (C := Cq30) good sndq61 Meth.none mix Go.Proofs.Try.func30 (annq30 x n) (fun hw => by rw [← vcq30 x n]; exact pureq30 x n hp.1 hp.2)
  · cases h)

theorem sndq33 : Sound Go.Proofs.Try.prog Gq33 := sndq30.add ⟨_, Go.Proofs.Try.func33, by kernel_rfl, by kernel_rfl⟩ (by
  intro args ins out h hp
  unfold spq33 at h
  split at h
  · rename_i n r l
    cases h
    exact vcFun_ok (C := Cq33) good sndq30 Meth.none mix Go.Proofs.Try.func33 (annq33 r n l) (fun hw => by rw [← vcq33 r n l]; exact pureq33 r n l hp.1 hp.2.1 hp.2.2)
  · cases h)

theorem sndq16 : Sound Go.Proofs.Try.prog Gq16 := sndq33.add ⟨_, Go.Proofs.Try.func16, by kernel_rfl, by kernel_rfl⟩ (by
  intro args ins out h hp
  unfold spq16 at h
  split at h
  · rename_i r s
    cases h
    exact vcFun_ok (C := Cq16) good sndq33 Meth.none mix Go.Proofs.Try.func16 (annq16 r s) (fun hw => by rw [← vcq16 r s]; exact pureq16 r s hp.1 hp.2)
  · cases h)

theorem sndq19 : Sound Go.Proofs.Try.prog Gq19 := sndq16.add ⟨_, Go.Proofs.Try.func19, by kernel_rfl, by kernel_rfl⟩ (by
  intro args ins out h hp
  unfold spq19 at h
  split at h
  · rename_i y
    cases h
    exact vcFun_ok (C := Cq19) good sndq16 Meth.none mix Go.Proofs.Try.func19 (annq19 y) (fun hw => by rw [← vcq19 y]; exact pureq19 y (hwq19 hw))
  · cases h)

theorem sndq31 : Sound Go.Proofs.Try.prog Gq31 := sndq19.add ⟨_, Go.Proofs.Try.func31, by kernel_rfl, by kernel_rfl⟩ (by
  intro args ins out h hp
  unfold spq31 at h
  split at h
  · rename_i y
    cases h
    exact vcFun_ok (C := Cq31) good sndq19 Meth.none mix Go.Proofs.Try.func31 (annq31 y) (fun hw => by rw [← vcq31 y]; exact pureq31 y hp (hwq19 hw))
  · cases h)

theorem sndq9 : Sound Go.Proofs.Try.prog Gq9 := sndq31.add ⟨_, Go.Proofs.Try.func9, by kernel_rfl, by kernel_rfl⟩ (by
  intro args ins out h hp
  unfold spq9 at h
  split at h
  · rename_i s n
    cases h
    exact vcFun_ok (C := Cq9) good sndq31 Meth.none mix Go.Proofs.Try.func9 (annq9 s n) (fun hw => by rw [← vcq9 s n]; exact pureq9 s n (hw81 hw))
  · cases h)

theorem sndq12 : Sound Go.Proofs.Try.prog Gq12 := sndq9.add ⟨_, Go.Proofs.Try.func12, by kernel_rfl, by kernel_rfl⟩ (by
  intro args ins out h hp
  unfold spq12 at h
  split at h
  · rename_i f s n
    cases h
    exact vcFun_ok (C := Cq12) good sndq9 Meth.none mix Go.Proofs.Try.func12 (annq12 f s n) (fun hw => by rw [← vcq12 f s n]; exact pureq12 f s n hp.1 hp.2 (hwq12 hw))
  · cases h)

theorem sndq15 : Sound Go.Proofs.Try.prog Gq15 := sndq12.add ⟨_, Go.Proofs.Try.func15, by kernel_rfl, by kernel_rfl⟩ (by
  intro args ins out h hp
  unfold spq15 at h
  split at h
  · rename_i s
    cases h
    exact vcFun_ok (C := Cq15) good sndq12 Meth.none mix Go.Proofs.Try.func15 (annq15 s) (fun hw => by rw [← vcq15 s]; exact pureq15 s)
  · cases h)

end Go.SL.A

/- Shapes that are right for a size: plain functions. -/
namespace Go.SL.S
open Go Go.SL
def shRow (k : List Int) (l : List Int) (b : Nat) : List Int := vecF 4 (k.getD b 0) ((l.getD b 0).tmod (countF 4 (k.getD b 0)))
def shRows (k : List Int) (l : List Int) : List (List Int) := (List.range 8).map (shRow k l)
def shape19 (side l : List Int) (size : Int) : SHQ := (held8 side, shRows (refF (held8 side) (8 * size - 64)) l)
end Go.SL.S

/- Functions and what they are held to do: bound to their code. -/
namespace Go.SL.A
open Go Go.SL Go.SL.S
set_option maxRecDepth 100000
noncomputable def Cq13 : Ctx := ⟨Go.Proofs.Try.prog, D, Gq15, (fun _ _ => none), fun _ => []⟩
def annq13 (side l : List Int) (_n : Int) : Nat → St → Option Ann := fun id S => match id with | 0 => some ⟨Nat, [2, 3, 4, 6, 7], [0, 1, 2], fun i => [(8, .v (.int .i64) (i : Int))], fun i => [(3, some ⟨false, true, (.cons (.arr 8 (.int .i64)) (.last (.arr 8 (.arr 4 (.int .i64))))), [((held8 side).take i ++ (List.replicate 8 0).drop i, List.replicate 8 (List.replicate 4 0))]⟩)], fun i => i ≤ 8, fun i => 8 - i⟩ | 2 => some ⟨Nat, [4, 6, 7, 9], [1, 2, 4], fun b => [(10, .v (.int .i64) (b : Int))], fun b => [(3, some ⟨false, true, (.cons (.arr 8 (.int .i64)) (.last (.arr 8 (.arr 4 (.int .i64))))), [((S.x 3 (.cons (.arr 8 (.int .i64)) (.last (.arr 8 (.arr 4 (.int .i64)))))).1, (shRows (S.x 4 (.arr 8 (.int .i64))) l).take b ++ (List.replicate 8 (List.replicate 4 0)).drop b)]⟩)], fun b => b ≤ 8, fun b => 8 - b⟩ | _ => some ⟨Nat, [4, 6, 7, 9, 10, 12], [1, 2, 4, 5], fun i => [(14, .v (.int .i64) (i : Int))], fun i => [(3, some ⟨false, true, (.cons (.arr 8 (.int .i64)) (.last (.arr 8 (.arr 4 (.int .i64))))), [((S.x 3 (.cons (.arr 8 (.int .i64)) (.last (.arr 8 (.arr 4 (.int .i64)))))).1, List.set (S.x 3 (.cons (.arr 8 (.int .i64)) (.last (.arr 8 (.arr 4 (.int .i64)))))).2 (S.i 10).toNat ((S.xs 5 (.int .i64)).take i ++ (List.replicate 4 0).drop i))]⟩)], fun i => i ≤ 4, fun i => 4 - i⟩
def outq13 (side l : List Int) (n : Int) : COut := ⟨[12 ≤ n ∧ n ≤ 24], .v (.cons (.arr 8 (.int .i64)) (.last (.arr 8 (.arr 4 (.int .i64))))) (shape19 side l n), [], []⟩
def spq13 : Spec := fun args ins => match args, ins with
  | [⟨.arr 8 (.int .i64), side⟩, ⟨.arr 8 (.int .u32), l⟩, ⟨.int .i64, n⟩], [] => some (outq13 side l n)
  | _, _ => none
def Gq13 := addG Gq15 13 spq13
def Pq13 (side l : List Int) (n : Int) : Prop :=
  ∃ (x : Nat), ((n = n ∧ (0 : Nat) = (0 : Nat) ∧ (0 : Nat) = (0 : Nat) ∧ (0 : Nat) = (0 : Nat) ∧ (0 : Nat) = (0 : Nat) ∧ (0 : Int) = (↑x : Int) ∧ side = side ∧ false = false ∧ l = l ∧ false = false ∧ List.replicate (8 :
  Nat) (0 : Int) = List.replicate (8 : Nat) (0 : Int) ∧ List.replicate (8 : Nat) (List.replicate (4 : Nat) (0 : Int)) = List.replicate (8 : Nat) (List.replicate (4 : Nat) (0 : Int)) ∧ false = false ∧ List.replicate (8 :
  Nat) (0 : Int) = List.take x (held8 side) ++ List.drop x (List.replicate (8 : Nat) (0 : Int)) ∧ List.replicate (8 : Nat) (List.replicate (4 : Nat) (0 : Int)) = List.replicate (8 : Nat) (List.replicate (4 : Nat) (0 : Int))
  ∧ false = false) ∧ x ≤ (8 : Nat)) ∧ ∀ (x : Nat), x ≤ (8 : Nat) → (IntKind.min IntKind.i64 ≤ (↑x : Int) ∧ (↑x : Int) ≤ IntKind.max IntKind.i64 ∧ ∀ (y : List Int × List (List Int)), List.Mem y [(List.take x (held8 side) ++
  List.drop x (List.replicate (8 : Nat) (0 : Int)), List.replicate (8 : Nat) (List.replicate (4 : Nat) (0 : Int)))] → List.length (Prod.fst y) = (8 : Nat) ∧ (∀ (y_1 : Int), List.Mem y_1 (Prod.fst y) → IntKind.min
  IntKind.i64 ≤ y_1 ∧ y_1 ≤ IntKind.max IntKind.i64) ∧ List.length (Prod.snd y) = (8 : Nat) ∧ ∀ (y_1 : List Int), List.Mem y_1 (Prod.snd y) → List.length y_1 = (4 : Nat) ∧ ∀ (y : Int), List.Mem y y_1 → IntKind.min
  IntKind.i64 ≤ y ∧ y ≤ IntKind.max IntKind.i64) → bif decide ((↑x : Int) < (8 : Int)) then (((0 : Int) ≤ (↑x : Int) ∧ (↑x : Int) < (↑(8 : Nat) : Int)) ∧ Int.toNat (↑x : Int) < (8 : Nat) ∧ ((0 : Int) ≤ (↑x : Int) ∧ (↑x :
  Int) < (↑(8 : Nat) : Int)) ∧ Int.toNat (↑x : Int) < (8 : Nat)) ∧ ∃ (y : Nat), (n = n ∧ (0 : Nat) = (0 : Nat) ∧ (0 : Nat) = (0 : Nat) ∧ (0 : Nat) = (0 : Nat) ∧ (0 : Nat) = (0 : Nat) ∧ IntKind.wrap IntKind.i64 ((↑x : Int) +
  (1 : Int)) = (↑y : Int) ∧ side = side ∧ false = false ∧ l = l ∧ false = false ∧ List.replicate (8 : Nat) (0 : Int) = List.replicate (8 : Nat) (0 : Int) ∧ List.replicate (8 : Nat) (List.replicate (4 : Nat) (0 : Int)) =
  List.replicate (8 : Nat) (List.replicate (4 : Nat) (0 : Int)) ∧ false = false ∧ List.set (List.take x (held8 side) ++ List.drop x (List.replicate (8 : Nat) (0 : Int))) (Int.toNat (↑x : Int)) (iand IntKind.i64 (List.getD
  side (Int.toNat (↑x : Int)) (0 : Int)) (15 : Int)) = List.take y (held8 side) ++ List.drop y (List.replicate (8 : Nat) (0 : Int)) ∧ List.replicate (8 : Nat) (List.replicate (4 : Nat) (0 : Int)) = List.replicate (8 : Nat)
  (List.replicate (4 : Nat) (0 : Int)) ∧ false = false) ∧ y ≤ (8 : Nat) ∧ (8 : Nat) - y < (8 : Nat) - x else (rightF (List.take x (held8 side) ++ List.drop x (List.replicate (8 : Nat) (0 : Int))) = true ∧ (0 : Int) ≤
  IntKind.wrap IntKind.i64 (IntKind.wrap IntKind.i64 ((8 : Int) * n) - (64 : Int)) ∧ IntKind.wrap IntKind.i64 (IntKind.wrap IntKind.i64 ((8 : Int) * n) - (64 : Int)) ≤ (1048576 : Int)) ∧ ∃ (x_1 : Nat), (((0 : Nat) = (0 :
  Nat) ∧ (0 : Nat) = (0 : Nat) ∧ (0 : Nat) = (0 : Nat) ∧ (0 : Nat) = (0 : Nat) ∧ (0 : Int) = (↑x_1 : Int) ∧ l = l ∧ false = false ∧ List.replicate (8 : Nat) (0 : Int) = List.replicate (8 : Nat) (0 : Int) ∧ List.replicate (8
  : Nat) (List.replicate (4 : Nat) (0 : Int)) = List.replicate (8 : Nat) (List.replicate (4 : Nat) (0 : Int)) ∧ false = false ∧ List.take x (held8 side) ++ List.drop x (List.replicate (8 : Nat) (0 : Int)) = List.take x
  (held8 side) ++ List.drop x (List.replicate (8 : Nat) (0 : Int)) ∧ List.replicate (8 : Nat) (List.replicate (4 : Nat) (0 : Int)) = List.take x_1 (shRows (refF (List.take x (held8 side) ++ List.drop x (List.replicate (8 :
  Nat) (0 : Int))) (IntKind.wrap IntKind.i64 (IntKind.wrap IntKind.i64 ((8 : Int) * n) - (64 : Int)))) l) ++ List.drop x_1 (List.replicate (8 : Nat) (List.replicate (4 : Nat) (0 : Int))) ∧ false = false ∧ refF (List.take x
  (held8 side) ++ List.drop x (List.replicate (8 : Nat) (0 : Int))) (IntKind.wrap IntKind.i64 (IntKind.wrap IntKind.i64 ((8 : Int) * n) - (64 : Int))) = refF (List.take x (held8 side) ++ List.drop x (List.replicate (8 :
  Nat) (0 : Int))) (IntKind.wrap IntKind.i64 (IntKind.wrap IntKind.i64 ((8 : Int) * n) - (64 : Int))) ∧ false = false) ∧ x_1 ≤ (8 : Nat)) ∧ ∀ (x_2 : Nat), x_2 ≤ (8 : Nat) → (IntKind.min IntKind.i64 ≤ (↑x_2 : Int) ∧ (↑x_2 :
  Int) ≤ IntKind.max IntKind.i64 ∧ ∀ (y : List Int × List (List Int)), List.Mem y [(List.take x (held8 side) ++ List.drop x (List.replicate (8 : Nat) (0 : Int)), List.take x_2 (shRows (refF (List.take x (held8 side) ++
  List.drop x (List.replicate (8 : Nat) (0 : Int))) (IntKind.wrap IntKind.i64 (IntKind.wrap IntKind.i64 ((8 : Int) * n) - (64 : Int)))) l) ++ List.drop x_2 (List.replicate (8 : Nat) (List.replicate (4 : Nat) (0 : Int))))] →
  List.length (Prod.fst y) = (8 : Nat) ∧ (∀ (y_1 : Int), List.Mem y_1 (Prod.fst y) → IntKind.min IntKind.i64 ≤ y_1 ∧ y_1 ≤ IntKind.max IntKind.i64) ∧ List.length (Prod.snd y) = (8 : Nat) ∧ ∀ (y_1 : List Int), List.Mem y_1
  (Prod.snd y) → List.length y_1 = (4 : Nat) ∧ ∀ (y : Int), List.Mem y y_1 → IntKind.min IntKind.i64 ≤ y ∧ y ≤ IntKind.max IntKind.i64) → bif decide ((↑x_2 : Int) < (8 : Int)) then (((0 : Int) ≤ (↑x_2 : Int) ∧ (↑x_2 : Int)
  < (↑(8 : Nat) : Int)) ∧ Int.toNat (↑x_2 : Int) < (8 : Nat)) ∧ bif decide (countF (4 : Int) (List.getD (refF (List.take x (held8 side) ++ List.drop x (List.replicate (8 : Nat) (0 : Int))) (IntKind.wrap IntKind.i64
  (IntKind.wrap IntKind.i64 ((8 : Int) * n) - (64 : Int)))) (Int.toNat (↑x_2 : Int)) (0 : Int)) = (0 : Int)) then List.take x (held8 side) ++ List.drop x (List.replicate (8 : Nat) (0 : Int)) = Prod.fst (shape19 side l n) ∧
  List.take x_2 (shRows (refF (List.take x (held8 side) ++ List.drop x (List.replicate (8 : Nat) (0 : Int))) (IntKind.wrap IntKind.i64 (IntKind.wrap IntKind.i64 ((8 : Int) * n) - (64 : Int)))) l) ++ List.drop x_2
  (List.replicate (8 : Nat) (List.replicate (4 : Nat) (0 : Int))) = Prod.snd (shape19 side l n) else (((0 : Int) ≤ (↑x_2 : Int) ∧ (↑x_2 : Int) < (↑(8 : Nat) : Int)) ∧ Int.toNat (↑x_2 : Int) < (8 : Nat) ∧ ((0 : Int) ≤ (↑x_2
  : Int) ∧ (↑x_2 : Int) < (↑(8 : Nat) : Int)) ∧ Int.toNat (↑x_2 : Int) < (8 : Nat) ∧ countF (4 : Int) (List.getD (refF (List.take x (held8 side) ++ List.drop x (List.replicate (8 : Nat) (0 : Int))) (IntKind.wrap IntKind.i64
  (IntKind.wrap IntKind.i64 ((8 : Int) * n) - (64 : Int)))) (Int.toNat (↑x_2 : Int)) (0 : Int)) ≠ (0 : Int)) ∧ ∃ (x_3 : Nat), (((0 : Nat) = (0 : Nat) ∧ (0 : Nat) = (0 : Nat) ∧ (0 : Nat) = (0 : Nat) ∧ (0 : Nat) = (0 : Nat) ∧
  (↑x_2 : Int) = (↑x_2 : Int) ∧ (0 : Nat) = (0 : Nat) ∧ List.length (vecF (4 : Int) (List.getD (refF (List.take x (held8 side) ++ List.drop x (List.replicate (8 : Nat) (0 : Int))) (IntKind.wrap IntKind.i64 (IntKind.wrap
  IntKind.i64 ((8 : Int) * n) - (64 : Int)))) (Int.toNat (↑x_2 : Int)) (0 : Int)) (Int.tmod (IntKind.wrap IntKind.i64 (List.getD l (Int.toNat (↑x_2 : Int)) (0 : Int))) (countF (4 : Int) (List.getD (refF (List.take x (held8
  side) ++ List.drop x (List.replicate (8 : Nat) (0 : Int))) (IntKind.wrap IntKind.i64 (IntKind.wrap IntKind.i64 ((8 : Int) * n) - (64 : Int)))) (Int.toNat (↑x_2 : Int)) (0 : Int))))) = List.length (vecF (4 : Int)
  (List.getD (refF (List.take x (held8 side) ++ List.drop x (List.replicate (8 : Nat) (0 : Int))) (IntKind.wrap IntKind.i64 (IntKind.wrap IntKind.i64 ((8 : Int) * n) - (64 : Int)))) (Int.toNat (↑x_2 : Int)) (0 : Int))
  (Int.tmod (IntKind.wrap IntKind.i64 (List.getD l (Int.toNat (↑x_2 : Int)) (0 : Int))) (countF (4 : Int) (List.getD (refF (List.take x (held8 side) ++ List.drop x (List.replicate (8 : Nat) (0 : Int))) (IntKind.wrap
  IntKind.i64 (IntKind.wrap IntKind.i64 ((8 : Int) * n) - (64 : Int)))) (Int.toNat (↑x_2 : Int)) (0 : Int))))) ∧ (0 : Int) = (↑x_3 : Int) ∧ l = l ∧ false = false ∧ List.replicate (8 : Nat) (0 : Int) = List.replicate (8 :
  Nat) (0 : Int) ∧ List.replicate (8 : Nat) (List.replicate (4 : Nat) (0 : Int)) = List.replicate (8 : Nat) (List.replicate (4 : Nat) (0 : Int)) ∧ false = false ∧ List.take x (held8 side) ++ List.drop x (List.replicate (8 :
  Nat) (0 : Int)) = List.take x (held8 side) ++ List.drop x (List.replicate (8 : Nat) (0 : Int)) ∧ List.take x_2 (shRows (refF (List.take x (held8 side) ++ List.drop x (List.replicate (8 : Nat) (0 : Int))) (IntKind.wrap
  IntKind.i64 (IntKind.wrap IntKind.i64 ((8 : Int) * n) - (64 : Int)))) l) ++ List.drop x_2 (List.replicate (8 : Nat) (List.replicate (4 : Nat) (0 : Int))) = List.set (List.take x_2 (shRows (refF (List.take x (held8 side)
  ++ List.drop x (List.replicate (8 : Nat) (0 : Int))) (IntKind.wrap IntKind.i64 (IntKind.wrap IntKind.i64 ((8 : Int) * n) - (64 : Int)))) l) ++ List.drop x_2 (List.replicate (8 : Nat) (List.replicate (4 : Nat) (0 : Int))))
  (Int.toNat (↑x_2 : Int)) (List.take x_3 (vecF (4 : Int) (List.getD (refF (List.take x (held8 side) ++ List.drop x (List.replicate (8 : Nat) (0 : Int))) (IntKind.wrap IntKind.i64 (IntKind.wrap IntKind.i64 ((8 : Int) * n) -
  (64 : Int)))) (Int.toNat (↑x_2 : Int)) (0 : Int)) (Int.tmod (IntKind.wrap IntKind.i64 (List.getD l (Int.toNat (↑x_2 : Int)) (0 : Int))) (countF (4 : Int) (List.getD (refF (List.take x (held8 side) ++ List.drop x
  (List.replicate (8 : Nat) (0 : Int))) (IntKind.wrap IntKind.i64 (IntKind.wrap IntKind.i64 ((8 : Int) * n) - (64 : Int)))) (Int.toNat (↑x_2 : Int)) (0 : Int))))) ++ List.drop x_3 (List.replicate (4 : Nat) (0 : Int))) ∧
  false = false ∧ refF (List.take x (held8 side) ++ List.drop x (List.replicate (8 : Nat) (0 : Int))) (IntKind.wrap IntKind.i64 (IntKind.wrap IntKind.i64 ((8 : Int) * n) - (64 : Int))) = refF (List.take x (held8 side) ++
  List.drop x (List.replicate (8 : Nat) (0 : Int))) (IntKind.wrap IntKind.i64 (IntKind.wrap IntKind.i64 ((8 : Int) * n) - (64 : Int))) ∧ false = false ∧ vecF (4 : Int) (List.getD (refF (List.take x (held8 side) ++ List.drop
  x (List.replicate (8 : Nat) (0 : Int))) (IntKind.wrap IntKind.i64 (IntKind.wrap IntKind.i64 ((8 : Int) * n) - (64 : Int)))) (Int.toNat (↑x_2 : Int)) (0 : Int)) (Int.tmod (IntKind.wrap IntKind.i64 (List.getD l (Int.toNat
  (↑x_2 : Int)) (0 : Int))) (countF (4 : Int) (List.getD (refF (List.take x (held8 side) ++ List.drop x (List.replicate (8 : Nat) (0 : Int))) (IntKind.wrap IntKind.i64 (IntKind.wrap IntKind.i64 ((8 : Int) * n) - (64 :
  Int)))) (Int.toNat (↑x_2 : Int)) (0 : Int)))) = vecF (4 : Int) (List.getD (refF (List.take x (held8 side) ++ List.drop x (List.replicate (8 : Nat) (0 : Int))) (IntKind.wrap IntKind.i64 (IntKind.wrap IntKind.i64 ((8 : Int)
  * n) - (64 : Int)))) (Int.toNat (↑x_2 : Int)) (0 : Int)) (Int.tmod (IntKind.wrap IntKind.i64 (List.getD l (Int.toNat (↑x_2 : Int)) (0 : Int))) (countF (4 : Int) (List.getD (refF (List.take x (held8 side) ++ List.drop x
  (List.replicate (8 : Nat) (0 : Int))) (IntKind.wrap IntKind.i64 (IntKind.wrap IntKind.i64 ((8 : Int) * n) - (64 : Int)))) (Int.toNat (↑x_2 : Int)) (0 : Int)))) ∧ false = false) ∧ x_3 ≤ (4 : Nat)) ∧ ∀ (x_4 : Nat), x_4 ≤ (4
  : Nat) → (IntKind.min IntKind.i64 ≤ (↑x_4 : Int) ∧ (↑x_4 : Int) ≤ IntKind.max IntKind.i64 ∧ ∀ (y : List Int × List (List Int)), List.Mem y [(List.take x (held8 side) ++ List.drop x (List.replicate (8 : Nat) (0 : Int)),
  List.set (List.take x_2 (shRows (refF (List.take x (held8 side) ++ List.drop x (List.replicate (8 : Nat) (0 : Int))) (IntKind.wrap IntKind.i64 (IntKind.wrap IntKind.i64 ((8 : Int) * n) - (64 : Int)))) l) ++ List.drop x_2
  (List.replicate (8 : Nat) (List.replicate (4 : Nat) (0 : Int)))) (Int.toNat (↑x_2 : Int)) (List.take x_4 (vecF (4 : Int) (List.getD (refF (List.take x (held8 side) ++ List.drop x (List.replicate (8 : Nat) (0 : Int)))
  (IntKind.wrap IntKind.i64 (IntKind.wrap IntKind.i64 ((8 : Int) * n) - (64 : Int)))) (Int.toNat (↑x_2 : Int)) (0 : Int)) (Int.tmod (IntKind.wrap IntKind.i64 (List.getD l (Int.toNat (↑x_2 : Int)) (0 : Int))) (countF (4 :
  Int) (List.getD (refF (List.take x (held8 side) ++ List.drop x (List.replicate (8 : Nat) (0 : Int))) (IntKind.wrap IntKind.i64 (IntKind.wrap IntKind.i64 ((8 : Int) * n) - (64 : Int)))) (Int.toNat (↑x_2 : Int)) (0 :
  Int))))) ++ List.drop x_4 (List.replicate (4 : Nat) (0 : Int))))] → List.length (Prod.fst y) = (8 : Nat) ∧ (∀ (y_1 : Int), List.Mem y_1 (Prod.fst y) → IntKind.min IntKind.i64 ≤ y_1 ∧ y_1 ≤ IntKind.max IntKind.i64) ∧
  List.length (Prod.snd y) = (8 : Nat) ∧ ∀ (y_1 : List Int), List.Mem y_1 (Prod.snd y) → List.length y_1 = (4 : Nat) ∧ ∀ (y : Int), List.Mem y y_1 → IntKind.min IntKind.i64 ≤ y ∧ y ≤ IntKind.max IntKind.i64) → ∀ (b : Bool),
  decide ((↑x_4 : Int) < (4 : Int)) = b → ((b = true → b = true) ∧ (b = true → b = true) ∧ (b = true → b = true)) ∧ bif bif b then decide ((↑(List.length (vecF (4 : Int) (List.getD (refF (List.take x (held8 side) ++
  List.drop x (List.replicate (8 : Nat) (0 : Int))) (IntKind.wrap IntKind.i64 (IntKind.wrap IntKind.i64 ((8 : Int) * n) - (64 : Int)))) (Int.toNat (↑x_2 : Int)) (0 : Int)) (Int.tmod (IntKind.wrap IntKind.i64 (List.getD l
  (Int.toNat (↑x_2 : Int)) (0 : Int))) (countF (4 : Int) (List.getD (refF (List.take x (held8 side) ++ List.drop x (List.replicate (8 : Nat) (0 : Int))) (IntKind.wrap IntKind.i64 (IntKind.wrap IntKind.i64 ((8 : Int) * n) -
  (64 : Int)))) (Int.toNat (↑x_2 : Int)) (0 : Int)))))) : Int) = (4 : Int)) else false then (((0 : Int) ≤ (↑x_4 : Int) ∧ (↑x_4 : Int) < (↑(List.length (vecF (4 : Int) (List.getD (refF (List.take x (held8 side) ++ List.drop
  x (List.replicate (8 : Nat) (0 : Int))) (IntKind.wrap IntKind.i64 (IntKind.wrap IntKind.i64 ((8 : Int) * n) - (64 : Int)))) (Int.toNat (↑x_2 : Int)) (0 : Int)) (Int.tmod (IntKind.wrap IntKind.i64 (List.getD l (Int.toNat
  (↑x_2 : Int)) (0 : Int))) (countF (4 : Int) (List.getD (refF (List.take x (held8 side) ++ List.drop x (List.replicate (8 : Nat) (0 : Int))) (IntKind.wrap IntKind.i64 (IntKind.wrap IntKind.i64 ((8 : Int) * n) - (64 :
  Int)))) (Int.toNat (↑x_2 : Int)) (0 : Int)))))) : Int)) ∧ (0 : Nat) + Int.toNat (↑x_4 : Int) < List.length (vecF (4 : Int) (List.getD (refF (List.take x (held8 side) ++ List.drop x (List.replicate (8 : Nat) (0 : Int)))
  (IntKind.wrap IntKind.i64 (IntKind.wrap IntKind.i64 ((8 : Int) * n) - (64 : Int)))) (Int.toNat (↑x_2 : Int)) (0 : Int)) (Int.tmod (IntKind.wrap IntKind.i64 (List.getD l (Int.toNat (↑x_2 : Int)) (0 : Int))) (countF (4 :
  Int) (List.getD (refF (List.take x (held8 side) ++ List.drop x (List.replicate (8 : Nat) (0 : Int))) (IntKind.wrap IntKind.i64 (IntKind.wrap IntKind.i64 ((8 : Int) * n) - (64 : Int)))) (Int.toNat (↑x_2 : Int)) (0 :
  Int))))) ∧ ((0 : Int) ≤ (↑x_2 : Int) ∧ (↑x_2 : Int) < (↑(8 : Nat) : Int)) ∧ ((0 : Int) ≤ (↑x_4 : Int) ∧ (↑x_4 : Int) < (↑(4 : Nat) : Int)) ∧ Int.toNat (↑x_2 : Int) < (8 : Nat) ∧ Int.toNat (↑x_4 : Int) < (4 : Nat)) ∧ ∃ (y
  : Nat), ((0 : Nat) = (0 : Nat) ∧ (0 : Nat) = (0 : Nat) ∧ (0 : Nat) = (0 : Nat) ∧ (0 : Nat) = (0 : Nat) ∧ (↑x_2 : Int) = (↑x_2 : Int) ∧ (0 : Nat) = (0 : Nat) ∧ List.length (vecF (4 : Int) (List.getD (refF (List.take x
  (held8 side) ++ List.drop x (List.replicate (8 : Nat) (0 : Int))) (IntKind.wrap IntKind.i64 (IntKind.wrap IntKind.i64 ((8 : Int) * n) - (64 : Int)))) (Int.toNat (↑x_2 : Int)) (0 : Int)) (Int.tmod (IntKind.wrap IntKind.i64
  (List.getD l (Int.toNat (↑x_2 : Int)) (0 : Int))) (countF (4 : Int) (List.getD (refF (List.take x (held8 side) ++ List.drop x (List.replicate (8 : Nat) (0 : Int))) (IntKind.wrap IntKind.i64 (IntKind.wrap IntKind.i64 ((8 :
  Int) * n) - (64 : Int)))) (Int.toNat (↑x_2 : Int)) (0 : Int))))) = List.length (vecF (4 : Int) (List.getD (refF (List.take x (held8 side) ++ List.drop x (List.replicate (8 : Nat) (0 : Int))) (IntKind.wrap IntKind.i64
  (IntKind.wrap IntKind.i64 ((8 : Int) * n) - (64 : Int)))) (Int.toNat (↑x_2 : Int)) (0 : Int)) (Int.tmod (IntKind.wrap IntKind.i64 (List.getD l (Int.toNat (↑x_2 : Int)) (0 : Int))) (countF (4 : Int) (List.getD (refF
  (List.take x (held8 side) ++ List.drop x (List.replicate (8 : Nat) (0 : Int))) (IntKind.wrap IntKind.i64 (IntKind.wrap IntKind.i64 ((8 : Int) * n) - (64 : Int)))) (Int.toNat (↑x_2 : Int)) (0 : Int))))) ∧ IntKind.wrap
  IntKind.i64 ((↑x_4 : Int) + (1 : Int)) = (↑y : Int) ∧ l = l ∧ false = false ∧ List.replicate (8 : Nat) (0 : Int) = List.replicate (8 : Nat) (0 : Int) ∧ List.replicate (8 : Nat) (List.replicate (4 : Nat) (0 : Int)) =
  List.replicate (8 : Nat) (List.replicate (4 : Nat) (0 : Int)) ∧ false = false ∧ List.take x (held8 side) ++ List.drop x (List.replicate (8 : Nat) (0 : Int)) = List.take x (held8 side) ++ List.drop x (List.replicate (8 :
  Nat) (0 : Int)) ∧ List.set (List.set (List.take x_2 (shRows (refF (List.take x (held8 side) ++ List.drop x (List.replicate (8 : Nat) (0 : Int))) (IntKind.wrap IntKind.i64 (IntKind.wrap IntKind.i64 ((8 : Int) * n) - (64 :
  Int)))) l) ++ List.drop x_2 (List.replicate (8 : Nat) (List.replicate (4 : Nat) (0 : Int)))) (Int.toNat (↑x_2 : Int)) (List.take x_4 (vecF (4 : Int) (List.getD (refF (List.take x (held8 side) ++ List.drop x
  (List.replicate (8 : Nat) (0 : Int))) (IntKind.wrap IntKind.i64 (IntKind.wrap IntKind.i64 ((8 : Int) * n) - (64 : Int)))) (Int.toNat (↑x_2 : Int)) (0 : Int)) (Int.tmod (IntKind.wrap IntKind.i64 (List.getD l (Int.toNat
  (↑x_2 : Int)) (0 : Int))) (countF (4 : Int) (List.getD (refF (List.take x (held8 side) ++ List.drop x (List.replicate (8 : Nat) (0 : Int))) (IntKind.wrap IntKind.i64 (IntKind.wrap IntKind.i64 ((8 : Int) * n) - (64 :
  Int)))) (Int.toNat (↑x_2 : Int)) (0 : Int))))) ++ List.drop x_4 (List.replicate (4 : Nat) (0 : Int)))) (Int.toNat (↑x_2 : Int)) (List.set (List.getD (List.set (List.take x_2 (shRows (refF (List.take x (held8 side) ++
  List.drop x (List.replicate (8 : Nat) (0 : Int))) (IntKind.wrap IntKind.i64 (IntKind.wrap IntKind.i64 ((8 : Int) * n) - (64 : Int)))) l) ++ List.drop x_2 (List.replicate (8 : Nat) (List.replicate (4 : Nat) (0 : Int))))
  (Int.toNat (↑x_2 : Int)) (List.take x_4 (vecF (4 : Int) (List.getD (refF (List.take x (held8 side) ++ List.drop x (List.replicate (8 : Nat) (0 : Int))) (IntKind.wrap IntKind.i64 (IntKind.wrap IntKind.i64 ((8 : Int) * n) -
  (64 : Int)))) (Int.toNat (↑x_2 : Int)) (0 : Int)) (Int.tmod (IntKind.wrap IntKind.i64 (List.getD l (Int.toNat (↑x_2 : Int)) (0 : Int))) (countF (4 : Int) (List.getD (refF (List.take x (held8 side) ++ List.drop x
  (List.replicate (8 : Nat) (0 : Int))) (IntKind.wrap IntKind.i64 (IntKind.wrap IntKind.i64 ((8 : Int) * n) - (64 : Int)))) (Int.toNat (↑x_2 : Int)) (0 : Int))))) ++ List.drop x_4 (List.replicate (4 : Nat) (0 : Int))))
  (Int.toNat (↑x_2 : Int)) (List.replicate (4 : Nat) (0 : Int))) (Int.toNat (↑x_4 : Int)) (List.getD (vecF (4 : Int) (List.getD (refF (List.take x (held8 side) ++ List.drop x (List.replicate (8 : Nat) (0 : Int)))
  (IntKind.wrap IntKind.i64 (IntKind.wrap IntKind.i64 ((8 : Int) * n) - (64 : Int)))) (Int.toNat (↑x_2 : Int)) (0 : Int)) (Int.tmod (IntKind.wrap IntKind.i64 (List.getD l (Int.toNat (↑x_2 : Int)) (0 : Int))) (countF (4 :
  Int) (List.getD (refF (List.take x (held8 side) ++ List.drop x (List.replicate (8 : Nat) (0 : Int))) (IntKind.wrap IntKind.i64 (IntKind.wrap IntKind.i64 ((8 : Int) * n) - (64 : Int)))) (Int.toNat (↑x_2 : Int)) (0 :
  Int))))) ((0 : Nat) + Int.toNat (↑x_4 : Int)) (0 : Int))) = List.set (List.take x_2 (shRows (refF (List.take x (held8 side) ++ List.drop x (List.replicate (8 : Nat) (0 : Int))) (IntKind.wrap IntKind.i64 (IntKind.wrap
  IntKind.i64 ((8 : Int) * n) - (64 : Int)))) l) ++ List.drop x_2 (List.replicate (8 : Nat) (List.replicate (4 : Nat) (0 : Int)))) (Int.toNat (↑x_2 : Int)) (List.take y (vecF (4 : Int) (List.getD (refF (List.take x (held8
  side) ++ List.drop x (List.replicate (8 : Nat) (0 : Int))) (IntKind.wrap IntKind.i64 (IntKind.wrap IntKind.i64 ((8 : Int) * n) - (64 : Int)))) (Int.toNat (↑x_2 : Int)) (0 : Int)) (Int.tmod (IntKind.wrap IntKind.i64
  (List.getD l (Int.toNat (↑x_2 : Int)) (0 : Int))) (countF (4 : Int) (List.getD (refF (List.take x (held8 side) ++ List.drop x (List.replicate (8 : Nat) (0 : Int))) (IntKind.wrap IntKind.i64 (IntKind.wrap IntKind.i64 ((8 :
  Int) * n) - (64 : Int)))) (Int.toNat (↑x_2 : Int)) (0 : Int))))) ++ List.drop y (List.replicate (4 : Nat) (0 : Int))) ∧ false = false ∧ refF (List.take x (held8 side) ++ List.drop x (List.replicate (8 : Nat) (0 : Int)))
  (IntKind.wrap IntKind.i64 (IntKind.wrap IntKind.i64 ((8 : Int) * n) - (64 : Int))) = refF (List.take x (held8 side) ++ List.drop x (List.replicate (8 : Nat) (0 : Int))) (IntKind.wrap IntKind.i64 (IntKind.wrap IntKind.i64
  ((8 : Int) * n) - (64 : Int))) ∧ false = false ∧ vecF (4 : Int) (List.getD (refF (List.take x (held8 side) ++ List.drop x (List.replicate (8 : Nat) (0 : Int))) (IntKind.wrap IntKind.i64 (IntKind.wrap IntKind.i64 ((8 :
  Int) * n) - (64 : Int)))) (Int.toNat (↑x_2 : Int)) (0 : Int)) (Int.tmod (IntKind.wrap IntKind.i64 (List.getD l (Int.toNat (↑x_2 : Int)) (0 : Int))) (countF (4 : Int) (List.getD (refF (List.take x (held8 side) ++ List.drop
  x (List.replicate (8 : Nat) (0 : Int))) (IntKind.wrap IntKind.i64 (IntKind.wrap IntKind.i64 ((8 : Int) * n) - (64 : Int)))) (Int.toNat (↑x_2 : Int)) (0 : Int)))) = vecF (4 : Int) (List.getD (refF (List.take x (held8 side)
  ++ List.drop x (List.replicate (8 : Nat) (0 : Int))) (IntKind.wrap IntKind.i64 (IntKind.wrap IntKind.i64 ((8 : Int) * n) - (64 : Int)))) (Int.toNat (↑x_2 : Int)) (0 : Int)) (Int.tmod (IntKind.wrap IntKind.i64 (List.getD l
  (Int.toNat (↑x_2 : Int)) (0 : Int))) (countF (4 : Int) (List.getD (refF (List.take x (held8 side) ++ List.drop x (List.replicate (8 : Nat) (0 : Int))) (IntKind.wrap IntKind.i64 (IntKind.wrap IntKind.i64 ((8 : Int) * n) -
  (64 : Int)))) (Int.toNat (↑x_2 : Int)) (0 : Int)))) ∧ false = false) ∧ y ≤ (4 : Nat) ∧ (4 : Nat) - y < (4 : Nat) - x_4 else ∃ (y : Nat), ((0 : Nat) = (0 : Nat) ∧ (0 : Nat) = (0 : Nat) ∧ (0 : Nat) = (0 : Nat) ∧ (0 : Nat) =
  (0 : Nat) ∧ IntKind.wrap IntKind.i64 ((↑x_2 : Int) + (1 : Int)) = (↑y : Int) ∧ l = l ∧ false = false ∧ List.replicate (8 : Nat) (0 : Int) = List.replicate (8 : Nat) (0 : Int) ∧ List.replicate (8 : Nat) (List.replicate (4
  : Nat) (0 : Int)) = List.replicate (8 : Nat) (List.replicate (4 : Nat) (0 : Int)) ∧ false = false ∧ List.take x (held8 side) ++ List.drop x (List.replicate (8 : Nat) (0 : Int)) = List.take x (held8 side) ++ List.drop x
  (List.replicate (8 : Nat) (0 : Int)) ∧ List.set (List.take x_2 (shRows (refF (List.take x (held8 side) ++ List.drop x (List.replicate (8 : Nat) (0 : Int))) (IntKind.wrap IntKind.i64 (IntKind.wrap IntKind.i64 ((8 : Int) *
  n) - (64 : Int)))) l) ++ List.drop x_2 (List.replicate (8 : Nat) (List.replicate (4 : Nat) (0 : Int)))) (Int.toNat (↑x_2 : Int)) (List.take x_4 (vecF (4 : Int) (List.getD (refF (List.take x (held8 side) ++ List.drop x
  (List.replicate (8 : Nat) (0 : Int))) (IntKind.wrap IntKind.i64 (IntKind.wrap IntKind.i64 ((8 : Int) * n) - (64 : Int)))) (Int.toNat (↑x_2 : Int)) (0 : Int)) (Int.tmod (IntKind.wrap IntKind.i64 (List.getD l (Int.toNat
  (↑x_2 : Int)) (0 : Int))) (countF (4 : Int) (List.getD (refF (List.take x (held8 side) ++ List.drop x (List.replicate (8 : Nat) (0 : Int))) (IntKind.wrap IntKind.i64 (IntKind.wrap IntKind.i64 ((8 : Int) * n) - (64 :
  Int)))) (Int.toNat (↑x_2 : Int)) (0 : Int))))) ++ List.drop x_4 (List.replicate (4 : Nat) (0 : Int))) = List.take y (shRows (refF (List.take x (held8 side) ++ List.drop x (List.replicate (8 : Nat) (0 : Int)))
  (IntKind.wrap IntKind.i64 (IntKind.wrap IntKind.i64 ((8 : Int) * n) - (64 : Int)))) l) ++ List.drop y (List.replicate (8 : Nat) (List.replicate (4 : Nat) (0 : Int))) ∧ false = false ∧ refF (List.take x (held8 side) ++
  List.drop x (List.replicate (8 : Nat) (0 : Int))) (IntKind.wrap IntKind.i64 (IntKind.wrap IntKind.i64 ((8 : Int) * n) - (64 : Int))) = refF (List.take x (held8 side) ++ List.drop x (List.replicate (8 : Nat) (0 : Int)))
  (IntKind.wrap IntKind.i64 (IntKind.wrap IntKind.i64 ((8 : Int) * n) - (64 : Int))) ∧ false = false) ∧ y ≤ (8 : Nat) ∧ (8 : Nat) - y < (8 : Nat) - x_2 else List.take x (held8 side) ++ List.drop x (List.replicate (8 : Nat)
  (0 : Int)) = Prod.fst (shape19 side l n) ∧ List.take x_2 (shRows (refF (List.take x (held8 side) ++ List.drop x (List.replicate (8 : Nat) (0 : Int))) (IntKind.wrap IntKind.i64 (IntKind.wrap IntKind.i64 ((8 : Int) * n) -
  (64 : Int)))) l) ++ List.drop x_2 (List.replicate (8 : Nat) (List.replicate (4 : Nat) (0 : Int))) = Prod.snd (shape19 side l n)
theorem vcq13 (side l : List Int) (n : Int) : Pq13 side l n = vcFun Cq13 (annq13 side l n) Go.Proofs.Try.f13 [⟨.arr 8 (.int .i64), side⟩, ⟨.arr 8 (.int .u32), l⟩, ⟨.int .i64, n⟩] [] (outq13 side l n) := by kernel_rfl

end Go.SL.A

/- Shapes that are right for a size. -/
namespace Go.SL.A
open Go Go.SL Go.SL.S
set_option maxRecDepth 100000

theorem set_same {L : List (List Int)} {b : Nat} {y : List Int} (h : L.getD b (List.replicate 4 0) = y) (hb : b < L.length) : List.set L b y = L := by
  rw [List.getD_eq_getElem?_getD, List.getElem?_eq_getElem hb, Option.getD_some] at h
  rw [← h]; exact List.set_getElem_self hb
theorem row_set {Y : List (List Int)} {b : Nat} (hb : b < Y.length) (y : List Int) : (List.set Y b y).getD b (List.replicate 4 0) = y := by
  rw [List.getD_eq_getElem?_getD, List.getElem?_set_self hb]; rfl

theorem hwq13 {side l : List Int} {n : Int} (hw : Go.SL.allP (List.flatMap (fun a : AV => a.t.wf a.x) [⟨.arr 8 (.int .i64), side⟩, ⟨.arr 8 (.int .u32), l⟩, ⟨.int .i64, n⟩] ++ List.flatMap Blk.wf [])) : side.length = 8 ∧ l.length = 8 ∧ ∀ x ∈ l, 0 ≤ x ∧ x ≤ 4294967295 := by
  simp only [List.flatMap_cons, List.flatMap_nil, Ty.wf, List.append_nil, List.cons_append, List.nil_append, Go.SL.allP] at hw
  refine ⟨hw.1, hw.2.2.1, fun x hx => ?_⟩
  have h := hw.2.2.2.1 x hx
  have e1 : IntKind.u32.min = 0 := by decide
  have e2 : IntKind.u32.max = 4294967295 := by decide
  rw [e1, e2] at h; exact h
theorem count_pos {q : Int} (h : 0 ≤ q ∧ q ≤ 12) : 0 < countF 4 q := by
  unfold countF
  rw [if_pos (may_iff.2 (by omega))]
  have := cnt_pos 3 q.toNat
  exact this
theorem giveK (side : List Int) {n : Int} (hn : 12 ≤ n ∧ n ≤ 24) (b : Nat) (hb : b < 8) : 0 ≤ (refF (held8 side) (8 * n - 64)).getD b 0 ∧ (refF (held8 side) (8 * n - 64)).getD b 0 ≤ 12 := by
  rw [← give_eq (held8 side) (B := 8 * n - 64) (by omega)]
  obtain ⟨_, _, _, _, h⟩ := give_end (held8 side) (B := 8 * n - 64) (by omega)
  exact (h b hb).1
theorem rem_fit {x c : Int} (hx : 0 ≤ x) (hc : 0 < c) : 0 ≤ x.tmod c ∧ x.tmod c < c := by
  obtain ⟨-, -, h1, h2, -⟩ := tdm x hc
  exact ⟨(h2 hx).1, h1⟩
theorem shRow_ok {k l : List Int} {b : Nat} (hk : 0 ≤ k.getD b 0 ∧ k.getD b 0 ≤ 12) (hl : 0 ≤ l.getD b 0) : (shRow k l b).length = 4 ∧ sumSz (shRow k l b) = k.getD b 0 := by
  have hc := count_pos hk
  have hr := rem_fit hl hc
  obtain ⟨-, h1, h2, -⟩ := vec_ok (n := 4) (k := k.getD b 0) (by omega) hr.1 hr.2
  unfold shRow
  exact ⟨by omega, h2⟩
theorem l_fit {l : List Int} (h : ∀ x ∈ l, 0 ≤ x ∧ x ≤ 4294967295) (b : Nat) : 0 ≤ l.getD b 0 ∧ l.getD b 0 ≤ 4294967295 := by
  by_cases hb : b < l.length
  · exact h _ (getD_mem hb)
  · rw [List.getD_eq_getElem?_getD, List.getElem?_eq_none (by omega)]; simp
theorem rows_at (k l : List Int) {b : Nat} (hb : b < 8) : (shRows k l)[b]? = some (shRow k l b) := by
  unfold shRows; rw [List.getElem?_map, List.getElem?_range hb]; rfl
theorem rows_len (k l : List Int) : (shRows k l).length = 8 := by unfold shRows; rw [List.length_map, List.length_range]
theorem pureq13 (side l : List Int) (n : Int) (hn : 12 ≤ n ∧ n ≤ 24) (hw : side.length = 8 ∧ l.length = 8 ∧ ∀ x ∈ l, 0 ≤ x ∧ x ≤ 4294967295) : Pq13 side l n := by
  obtain ⟨hs, hl, hx⟩ := hw
  unfold Pq13
  simp only [eq_self, true_and, and_true, Nat.zero_add]
  have hwr : IntKind.i64.wrap (IntKind.i64.wrap (8 * n) - 64) = 8 * n - 64 := by rw [w64 (n := 8 * n) (by omega) (by omega), w64 (by omega) (by omega)]
  have h8 := held8_len hs
  have hgk := fun b hb => giveK side hn b hb
  refine ⟨0, ⟨⟨rfl, rfl⟩, by omega⟩, fun i hi hw => ?_⟩
  clear hw
  by_cases h : (i : Int) < 8
  · have hv : (held8 side)[i]? = some (iand .i64 (side.getD i 0) 15) := by
      unfold held8
      rw [List.getElem?_map, List.getD_eq_getElem?_getD, List.getElem?_eq_getElem (by omega)]; rfl
    rw [decide_eq_true h, cond_true, Int.toNat_natCast]
    exact ⟨⟨⟨by omega, by omega⟩, by omega, ⟨by omega, by omega⟩, by omega⟩, i + 1, ⟨step_i (by omega), set_step (by omega) (by rw [List.length_replicate]; omega) hv⟩, by omega, by omega⟩
  have : i = 8 := by omega
  subst this
  have e8 : List.take 8 (held8 side) ++ List.drop 8 (List.replicate 8 0) = held8 side := by
    rw [List.take_of_length_le (by omega), List.drop_eq_nil_of_le (by rw [List.length_replicate]; omega), List.append_nil]
  rw [decide_eq_false h, cond_false]
  have hS : shape19 side l n = (held8 side, shRows (refF (held8 side) (8 * n - 64)) l) := rfl
  generalize shape19 side l n = R at *
  subst hS
  simp only [e8, hwr]
  have hr := held8_right side
  generalize refF (held8 side) (8 * n - 64) = k at *
  generalize held8 side = g at *
  refine ⟨⟨hr, by omega, by omega⟩, 0, ⟨⟨rfl, rfl⟩, by omega⟩, fun b hb hw => ?_⟩
  clear hw
  have hrl := rows_len k l
  by_cases hb8 : (b : Int) < 8
  · have hk := hgk b (by omega)
    have hc := count_pos hk
    have hlb := l_fit hx b
    have hrow : vecF 4 (k.getD b 0) (IntKind.i64.wrap (l.getD b 0) |>.tmod (countF 4 (k.getD b 0))) = shRow k l b := by
      rw [w64 (by omega) (by omega)]; rfl
    have hrk := shRow_ok (l := l) hk hlb.1
    have hat := rows_at k l (b := b) (by omega)
    rw [decide_eq_true hb8, cond_true]
    simp only [Int.toNat_natCast]
    refine ⟨⟨⟨by omega, by omega⟩, by omega⟩, ?_⟩
    rw [decide_eq_false (show ¬ countF 4 (k.getD b 0) = 0 by omega), cond_false]
    simp only [hrow]
    generalize shRow k l b = F at *
    generalize hG : List.take b (shRows k l) ++ List.drop b (List.replicate 8 (List.replicate 4 0)) = G at *
    have hGl : G.length = 8 := by
      rw [← hG, List.length_append, List.length_take, List.length_drop, List.length_replicate]; omega
    have hGb : G.getD b (List.replicate 4 0) = List.replicate 4 0 := by
      rw [← hG, List.getD_eq_getElem?_getD, List.getElem?_append_right (by rw [List.length_take]; omega), List.length_take, Nat.min_eq_left (by omega), Nat.sub_self, List.getElem?_drop, Nat.add_zero, List.getElem?_replicate, if_pos (by omega)]; rfl
    refine ⟨⟨⟨by omega, by omega⟩, by omega, ⟨by omega, by omega⟩, by omega, by omega⟩, 0, ⟨⟨rfl, ?_⟩, by omega⟩, fun j hj hw => ?_⟩
    · exact (set_same hGb (by omega)).symm
    clear hw
    intro b0 hb0
    refine ⟨⟨id, id, id⟩, ?_⟩
    have hlen : decide ((F.length : Int) = 4) = true := decide_eq_true (by omega)
    rw [hlen, ← hb0]
    by_cases hj4 : (j : Int) < 4
    · rw [decide_eq_true hj4, cond_true, cond_true, List.set_set, row_set (by omega)]
      refine ⟨⟨⟨by omega, by omega⟩, by omega, ⟨by omega, by omega⟩, ⟨by omega, by omega⟩, by omega, by omega⟩, j + 1, ⟨step_i (by omega), ?_⟩, by omega, by omega⟩
      have hv : F[j]? = some (F.getD j 0) := by
        rw [List.getD_eq_getElem?_getD, List.getElem?_eq_getElem (by omega)]; rfl
      rw [set_step (by omega) (by rw [List.length_replicate]; omega) hv]
    · have : j = 4 := by omega
      subst this
      have e4 : List.take 4 F ++ List.drop 4 (List.replicate 4 0) = F := by
        rw [List.take_of_length_le (by omega), List.drop_eq_nil_of_le (by rw [List.length_replicate]; omega), List.append_nil]
      rw [decide_eq_false hj4, cond_false, cond_false, e4, ← hG]
      exact ⟨b + 1, ⟨step_i (by omega), set_step (by omega) (by rw [List.length_replicate]; omega) hat⟩, by omega, by omega⟩
  · have : b = 8 := by omega
    subst this
    rw [decide_eq_false hb8, cond_false]
    refine ⟨trivial, ?_⟩
    rw [List.take_of_length_le (by omega), List.drop_eq_nil_of_le (by rw [List.length_replicate]; omega), List.append_nil]

end Go.SL.A

/- Functions do what they are held to do. -/
namespace Go.SL.A
open Go Go.SL Go.SL.S
theorem sndq13 : Sound Go.Proofs.Try.prog Gq13 := sndq15.add ⟨_, Go.Proofs.Try.func13, by kernel_rfl, by kernel_rfl⟩ (by
  intro args ins out h hp
  unfold spq13 at h
  split at h
  · rename_i side l n
    cases h
    exact vcFun_ok (C := Cq13) good sndq15 Meth.none mix Go.Proofs.Try.func13 (annq13 side l n) (fun hw => by rw [← vcq13 side l n]; exact pureq13 side l n hp (hwq13 hw))
  · cases h)

end Go.SL.A

/- Functions and what they are held to do: bound to their code. -/
namespace Go.SL.A
open Go Go.SL Go.SL.S
set_option maxRecDepth 100000
noncomputable def Cq8 : Ctx := ⟨Go.Proofs.Try.prog, D, Gq13, (fun _ _ => none), fun _ => []⟩
def annq8  : Nat → St → Option Ann := fun _ _ => none
def outq8  : COut := ⟨[], .v .bool true, [], []⟩
def spq8 : Spec := fun args ins => match args, ins with
  | [], [] => some outq8
  | _, _ => none
def Gq8 := addG Gq13 8 spq8
def Pq8  : Prop :=
  ((12 : Int) ≤ (24 : Int) ∧ (24 : Int) ≤ (24 : Int)) ∧ ∀ (b : Bool), true = b → ∀ (b_1 : Bool), (bif b then true else false) = b_1 → ((b = true → b = true) ∧ (b = true → b = true) ∧ (b = true → b = true) ∧ (b_1 = true →
  b_1 = true ∧ (0 : Int) ≤ (2 : Int) ∧ (2 : Int) ≤ (↑(24 : Nat) : Int)) ∧ (b_1 = true → b_1 = true) ∧ (b_1 = true → b_1 = true)) ∧ (bif b_1 then true else false) = true
theorem vcq8 : Pq8  = vcFun Cq8 (annq8 ) Go.Proofs.Try.f8 [] [] outq8 := by kernel_rfl

end Go.SL.A

/- The document's example of packets. -/
namespace Go.SL.A
open Go Go.SL Go.SL.S
theorem pureq8 : Pq8 := by
  unfold Pq8
  refine ⟨by decide, ?_⟩
  rintro b rfl b1 rfl
  decide
end Go.SL.A

/- Functions do what they are held to do. -/
namespace Go.SL.A
open Go Go.SL Go.SL.S
theorem sndq8 : Sound Go.Proofs.Try.prog Gq8 := sndq13.add ⟨_, Go.Proofs.Try.func8, by kernel_rfl, by kernel_rfl⟩ (by
  intro args ins out h hp
  unfold spq8 at h
  split at h
  · cases h
    exact vcFun_ok (C := Cq8) good sndq13 Meth.none mix Go.Proofs.Try.func8 (annq8 ) (fun hw => by rw [← vcq8 ]; exact pureq8)
  · cases h)

end Go.SL.A

/- Functions and what they are held to do: bound to their code. -/
namespace Go.SL.A
open Go Go.SL Go.SL.S
set_option maxRecDepth 100000
noncomputable def Cq5 : Ctx := ⟨Go.Proofs.Try.prog, D, Gq8, (fun _ _ => none), fun _ => []⟩
def annq5 (_f : Int) (_side _l _m : List Int) (_n : Int) : Nat → St → Option Ann := fun _ _ => some ⟨Nat, [6, 12], [0], fun i => [(16, .v (.int .i64) (i : Int))], fun _ => [], fun i => i ≤ 4, fun i => 4 - i⟩
def outq5 (_f : Int) (_side _l _m : List Int) (_n : Int) : COut := ⟨[], .v .bool true, [], []⟩
def spq5 : Spec := fun args ins => match args, ins with
  | [⟨.int .u16, f⟩, ⟨.arr 8 (.int .i64), side⟩, ⟨.arr 8 (.int .u32), l⟩, ⟨.arr 8 (.int .u32), m⟩, ⟨.int .u8, n⟩], [] => some (outq5 f side l m n)
  | _, _ => none
def Gq5 := addG Gq8 5 spq5
def Pq5 (f : Int) (side l m : List Int) (n : Int) : Prop :=
  (13 : Int) ≠ (0 : Int) ∧ ((12 : Int) ≤ IntKind.wrap IntKind.i64 ((12 : Int) + Int.tmod (IntKind.wrap IntKind.i64 n) (13 : Int)) ∧ IntKind.wrap IntKind.i64 ((12 : Int) + Int.tmod (IntKind.wrap IntKind.i64 n) (13 : Int)) ≤
  (24 : Int)) ∧ ((12 : Int) ≤ IntKind.wrap IntKind.i64 ((12 : Int) + Int.tmod (IntKind.wrap IntKind.i64 n) (13 : Int)) ∧ IntKind.wrap IntKind.i64 ((12 : Int) + Int.tmod (IntKind.wrap IntKind.i64 n) (13 : Int)) ≤ (24 : Int))
  ∧ ∀ (b : Bool), (!decide (layE (IntKind.wrap IntKind.i64 f) (Prod.fst (shape19 side l (IntKind.wrap IntKind.i64 ((12 : Int) + Int.tmod (IntKind.wrap IntKind.i64 n) (13 : Int)))), Prod.snd (shape19 side l (IntKind.wrap
  IntKind.i64 ((12 : Int) + Int.tmod (IntKind.wrap IntKind.i64 n) (13 : Int))))) (IntKind.wrap IntKind.i64 ((12 : Int) + Int.tmod (IntKind.wrap IntKind.i64 n) (13 : Int))) = (0 : Int))) = b → ∀ (b_1 : Bool), (bif b then
  true else !decide (layE (IntKind.wrap IntKind.i64 f) (Prod.fst (shape19 side m (IntKind.wrap IntKind.i64 ((12 : Int) + Int.tmod (IntKind.wrap IntKind.i64 n) (13 : Int)))), Prod.snd (shape19 side m (IntKind.wrap
  IntKind.i64 ((12 : Int) + Int.tmod (IntKind.wrap IntKind.i64 n) (13 : Int))))) (IntKind.wrap IntKind.i64 ((12 : Int) + Int.tmod (IntKind.wrap IntKind.i64 n) (13 : Int))) = (0 : Int))) = b_1 → ∀ (b_2 : Bool), (bif b_1 then
  true else !decide (ByteArray.extract (layV (IntKind.wrap IntKind.i64 f) (Prod.fst (shape19 side l (IntKind.wrap IntKind.i64 ((12 : Int) + Int.tmod (IntKind.wrap IntKind.i64 n) (13 : Int)))), Prod.snd (shape19 side l
  (IntKind.wrap IntKind.i64 ((12 : Int) + Int.tmod (IntKind.wrap IntKind.i64 n) (13 : Int))))) (IntKind.wrap IntKind.i64 ((12 : Int) + Int.tmod (IntKind.wrap IntKind.i64 n) (13 : Int)))) (0 : Nat) (6 : Nat) =
  ByteArray.extract (layV (IntKind.wrap IntKind.i64 f) (Prod.fst (shape19 side m (IntKind.wrap IntKind.i64 ((12 : Int) + Int.tmod (IntKind.wrap IntKind.i64 n) (13 : Int)))), Prod.snd (shape19 side m (IntKind.wrap
  IntKind.i64 ((12 : Int) + Int.tmod (IntKind.wrap IntKind.i64 n) (13 : Int))))) (IntKind.wrap IntKind.i64 ((12 : Int) + Int.tmod (IntKind.wrap IntKind.i64 n) (13 : Int)))) (0 : Nat) (6 : Nat))) = b_2 → (((!b) = true → (!b)
  = true) ∧ (b = false → (!b) = true) ∧ ((!b_1) = true → (!b_1) = true ∧ (0 : Int) ≤ (6 : Int) ∧ (6 : Int) ≤ (↑(ByteArray.size (layV (IntKind.wrap IntKind.i64 f) (Prod.fst (shape19 side l (IntKind.wrap IntKind.i64 ((12 :
  Int) + Int.tmod (IntKind.wrap IntKind.i64 n) (13 : Int)))), Prod.snd (shape19 side l (IntKind.wrap IntKind.i64 ((12 : Int) + Int.tmod (IntKind.wrap IntKind.i64 n) (13 : Int))))) (IntKind.wrap IntKind.i64 ((12 : Int) +
  Int.tmod (IntKind.wrap IntKind.i64 n) (13 : Int))))) : Int)) ∧ ((!b_1) = true → (!b_1) = true ∧ (0 : Int) ≤ (6 : Int) ∧ (6 : Int) ≤ (↑(ByteArray.size (layV (IntKind.wrap IntKind.i64 f) (Prod.fst (shape19 side m
  (IntKind.wrap IntKind.i64 ((12 : Int) + Int.tmod (IntKind.wrap IntKind.i64 n) (13 : Int)))), Prod.snd (shape19 side m (IntKind.wrap IntKind.i64 ((12 : Int) + Int.tmod (IntKind.wrap IntKind.i64 n) (13 : Int)))))
  (IntKind.wrap IntKind.i64 ((12 : Int) + Int.tmod (IntKind.wrap IntKind.i64 n) (13 : Int))))) : Int)) ∧ ((!b_1) = true → (!b_1) = true ∧ (!b_1) = true) ∧ (b_1 = false → (!b_1) = true) ∧ ((!b_2) = true → (!b_2) = true ∧ (0
  : Int) ≤ (0 : Int) ∧ (0 : Int) < (↑(ByteArray.size (layV (IntKind.wrap IntKind.i64 f) (Prod.fst (shape19 side l (IntKind.wrap IntKind.i64 ((12 : Int) + Int.tmod (IntKind.wrap IntKind.i64 n) (13 : Int)))), Prod.snd
  (shape19 side l (IntKind.wrap IntKind.i64 ((12 : Int) + Int.tmod (IntKind.wrap IntKind.i64 n) (13 : Int))))) (IntKind.wrap IntKind.i64 ((12 : Int) + Int.tmod (IntKind.wrap IntKind.i64 n) (13 : Int))))) : Int)) ∧ ((!b_2) =
  true → (!b_2) = true) ∧ ((!b_2) = true → (!b_2) = true) ∧ ((!b_2) = true → (!b_2) = true ∧ (0 : Int) ≤ (1 : Int) ∧ (1 : Int) < (↑(ByteArray.size (layV (IntKind.wrap IntKind.i64 f) (Prod.fst (shape19 side l (IntKind.wrap
  IntKind.i64 ((12 : Int) + Int.tmod (IntKind.wrap IntKind.i64 n) (13 : Int)))), Prod.snd (shape19 side l (IntKind.wrap IntKind.i64 ((12 : Int) + Int.tmod (IntKind.wrap IntKind.i64 n) (13 : Int))))) (IntKind.wrap
  IntKind.i64 ((12 : Int) + Int.tmod (IntKind.wrap IntKind.i64 n) (13 : Int))))) : Int)) ∧ ((!b_2) = true → (!b_2) = true) ∧ ((!b_2) = true → (!b_2) = true ∧ (!b_2) = true) ∧ ((!b_2) = true → (!b_2) = true) ∧ ((!b_2) = true
  → (!b_2) = true ∧ (!b_2) = true) ∧ (b_2 = false → (!b_2) = true)) ∧ bif bif b_2 then true else !decide (IntKind.wrap IntKind.i64 (IntKind.wrap IntKind.i64 (IntKind.wrap IntKind.i64 (byteAt (layV (IntKind.wrap IntKind.i64
  f) (Prod.fst (shape19 side l (IntKind.wrap IntKind.i64 ((12 : Int) + Int.tmod (IntKind.wrap IntKind.i64 n) (13 : Int)))), Prod.snd (shape19 side l (IntKind.wrap IntKind.i64 ((12 : Int) + Int.tmod (IntKind.wrap IntKind.i64
  n) (13 : Int))))) (IntKind.wrap IntKind.i64 ((12 : Int) + Int.tmod (IntKind.wrap IntKind.i64 n) (13 : Int)))) (0 : Nat)) * (256 : Int)) + IntKind.wrap IntKind.i64 (byteAt (layV (IntKind.wrap IntKind.i64 f) (Prod.fst
  (shape19 side l (IntKind.wrap IntKind.i64 ((12 : Int) + Int.tmod (IntKind.wrap IntKind.i64 n) (13 : Int)))), Prod.snd (shape19 side l (IntKind.wrap IntKind.i64 ((12 : Int) + Int.tmod (IntKind.wrap IntKind.i64 n) (13 :
  Int))))) (IntKind.wrap IntKind.i64 ((12 : Int) + Int.tmod (IntKind.wrap IntKind.i64 n) (13 : Int)))) (1 : Nat))) = IntKind.wrap IntKind.i64 f) then false = true else ∃ (x : Nat), (((0 : Nat) = (0 : Nat) ∧ layV
  (IntKind.wrap IntKind.i64 f) (Prod.fst (shape19 side l (IntKind.wrap IntKind.i64 ((12 : Int) + Int.tmod (IntKind.wrap IntKind.i64 n) (13 : Int)))), Prod.snd (shape19 side l (IntKind.wrap IntKind.i64 ((12 : Int) + Int.tmod
  (IntKind.wrap IntKind.i64 n) (13 : Int))))) (IntKind.wrap IntKind.i64 ((12 : Int) + Int.tmod (IntKind.wrap IntKind.i64 n) (13 : Int))) = layV (IntKind.wrap IntKind.i64 f) (Prod.fst (shape19 side l (IntKind.wrap
  IntKind.i64 ((12 : Int) + Int.tmod (IntKind.wrap IntKind.i64 n) (13 : Int)))), Prod.snd (shape19 side l (IntKind.wrap IntKind.i64 ((12 : Int) + Int.tmod (IntKind.wrap IntKind.i64 n) (13 : Int))))) (IntKind.wrap
  IntKind.i64 ((12 : Int) + Int.tmod (IntKind.wrap IntKind.i64 n) (13 : Int))) ∧ (0 : Int) = (↑x : Int) ∧ side = side ∧ false = false) ∧ x ≤ (4 : Nat)) ∧ ∀ (x : Nat), x ≤ (4 : Nat) → IntKind.min IntKind.i64 ≤ (↑x : Int) ∧
  (↑x : Int) ≤ IntKind.max IntKind.i64 → bif decide ((↑x : Int) < (4 : Int)) then (((0 : Int) ≤ IntKind.wrap IntKind.i64 ((2 : Int) + (↑x : Int)) ∧ IntKind.wrap IntKind.i64 ((2 : Int) + (↑x : Int)) < (↑(ByteArray.size (layV
  (IntKind.wrap IntKind.i64 f) (Prod.fst (shape19 side l (IntKind.wrap IntKind.i64 ((12 : Int) + Int.tmod (IntKind.wrap IntKind.i64 n) (13 : Int)))), Prod.snd (shape19 side l (IntKind.wrap IntKind.i64 ((12 : Int) + Int.tmod
  (IntKind.wrap IntKind.i64 n) (13 : Int))))) (IntKind.wrap IntKind.i64 ((12 : Int) + Int.tmod (IntKind.wrap IntKind.i64 n) (13 : Int))))) : Int)) ∧ ((0 : Int) ≤ IntKind.wrap IntKind.i64 ((2 : Int) * (↑x : Int)) ∧
  IntKind.wrap IntKind.i64 ((2 : Int) * (↑x : Int)) < (↑(8 : Nat) : Int)) ∧ Int.toNat (IntKind.wrap IntKind.i64 ((2 : Int) * (↑x : Int))) < (8 : Nat) ∧ ((0 : Int) ≤ IntKind.wrap IntKind.i64 (IntKind.wrap IntKind.i64 ((2 :
  Int) * (↑x : Int)) + (1 : Int)) ∧ IntKind.wrap IntKind.i64 (IntKind.wrap IntKind.i64 ((2 : Int) * (↑x : Int)) + (1 : Int)) < (↑(8 : Nat) : Int)) ∧ Int.toNat (IntKind.wrap IntKind.i64 (IntKind.wrap IntKind.i64 ((2 : Int) *
  (↑x : Int)) + (1 : Int))) < (8 : Nat)) ∧ bif !decide (IntKind.wrap IntKind.i64 (byteAt (layV (IntKind.wrap IntKind.i64 f) (Prod.fst (shape19 side l (IntKind.wrap IntKind.i64 ((12 : Int) + Int.tmod (IntKind.wrap
  IntKind.i64 n) (13 : Int)))), Prod.snd (shape19 side l (IntKind.wrap IntKind.i64 ((12 : Int) + Int.tmod (IntKind.wrap IntKind.i64 n) (13 : Int))))) (IntKind.wrap IntKind.i64 ((12 : Int) + Int.tmod (IntKind.wrap
  IntKind.i64 n) (13 : Int)))) (Int.toNat (IntKind.wrap IntKind.i64 ((2 : Int) + (↑x : Int))))) = IntKind.wrap IntKind.i64 (IntKind.wrap IntKind.i64 (iand IntKind.i64 (List.getD side (Int.toNat (IntKind.wrap IntKind.i64 ((2
  : Int) * (↑x : Int)))) (0 : Int)) (15 : Int) * (16 : Int)) + iand IntKind.i64 (List.getD side (Int.toNat (IntKind.wrap IntKind.i64 (IntKind.wrap IntKind.i64 ((2 : Int) * (↑x : Int)) + (1 : Int)))) (0 : Int)) (15 : Int)))
  then false = true else ∃ (y : Nat), ((0 : Nat) = (0 : Nat) ∧ layV (IntKind.wrap IntKind.i64 f) (Prod.fst (shape19 side l (IntKind.wrap IntKind.i64 ((12 : Int) + Int.tmod (IntKind.wrap IntKind.i64 n) (13 : Int)))),
  Prod.snd (shape19 side l (IntKind.wrap IntKind.i64 ((12 : Int) + Int.tmod (IntKind.wrap IntKind.i64 n) (13 : Int))))) (IntKind.wrap IntKind.i64 ((12 : Int) + Int.tmod (IntKind.wrap IntKind.i64 n) (13 : Int))) = layV
  (IntKind.wrap IntKind.i64 f) (Prod.fst (shape19 side l (IntKind.wrap IntKind.i64 ((12 : Int) + Int.tmod (IntKind.wrap IntKind.i64 n) (13 : Int)))), Prod.snd (shape19 side l (IntKind.wrap IntKind.i64 ((12 : Int) + Int.tmod
  (IntKind.wrap IntKind.i64 n) (13 : Int))))) (IntKind.wrap IntKind.i64 ((12 : Int) + Int.tmod (IntKind.wrap IntKind.i64 n) (13 : Int))) ∧ IntKind.wrap IntKind.i64 ((↑x : Int) + (1 : Int)) = (↑y : Int) ∧ side = side ∧ false
  = false) ∧ y ≤ (4 : Nat) ∧ (4 : Nat) - y < (4 : Nat) - x else true = true
theorem vcq5 (f : Int) (side l m : List Int) (n : Int) : Pq5 f side l m n = vcFun Cq5 (annq5 f side l m n) Go.Proofs.Try.f5 [⟨.int .u16, f⟩, ⟨.arr 8 (.int .i64), side⟩, ⟨.arr 8 (.int .u32), l⟩, ⟨.arr 8 (.int .u32), m⟩, ⟨.int .u8, n⟩] [] (outq5 f side l m n) := by kernel_rfl

noncomputable def Cq4 : Ctx := ⟨Go.Proofs.Try.prog, D, Gq5, (fun _ _ => none), fun _ => []⟩
def annq4 (_f _g : Int) (_side _more _l _m : List Int) (_n : Int) : Nat → St → Option Ann := fun _ _ => none
def outq4 (_f _g : Int) (_side _more _l _m : List Int) (_n : Int) : COut := ⟨[], .v .bool true, [], []⟩
def spq4 : Spec := fun args ins => match args, ins with
  | [⟨.int .u16, f⟩, ⟨.int .u16, g⟩, ⟨.arr 8 (.int .i64), side⟩, ⟨.arr 8 (.int .i64), more⟩, ⟨.arr 8 (.int .u32), l⟩, ⟨.arr 8 (.int .u32), m⟩, ⟨.int .u8, n⟩], [] => some (outq4 f g side more l m n)
  | _, _ => none
def Gq4 := addG Gq5 4 spq4
def Pq4 (f g : Int) (side more l m : List Int) (n : Int) : Prop :=
  (13 : Int) ≠ (0 : Int) ∧ ((12 : Int) ≤ IntKind.wrap IntKind.i64 ((12 : Int) + Int.tmod (IntKind.wrap IntKind.i64 n) (13 : Int)) ∧ IntKind.wrap IntKind.i64 ((12 : Int) + Int.tmod (IntKind.wrap IntKind.i64 n) (13 : Int)) ≤
  (24 : Int)) ∧ ((12 : Int) ≤ IntKind.wrap IntKind.i64 ((12 : Int) + Int.tmod (IntKind.wrap IntKind.i64 n) (13 : Int)) ∧ IntKind.wrap IntKind.i64 ((12 : Int) + Int.tmod (IntKind.wrap IntKind.i64 n) (13 : Int)) ≤ (24 : Int))
  ∧ ∀ (b : Bool), decide (layE (IntKind.wrap IntKind.i64 f) (Prod.fst (shape19 side l (IntKind.wrap IntKind.i64 ((12 : Int) + Int.tmod (IntKind.wrap IntKind.i64 n) (13 : Int)))), Prod.snd (shape19 side l (IntKind.wrap
  IntKind.i64 ((12 : Int) + Int.tmod (IntKind.wrap IntKind.i64 n) (13 : Int))))) (IntKind.wrap IntKind.i64 ((12 : Int) + Int.tmod (IntKind.wrap IntKind.i64 n) (13 : Int))) = (0 : Int)) = b → ∀ (b_1 : Bool), (bif b then
  decide (layE (IntKind.wrap IntKind.i64 g) (Prod.fst (shape19 more m (IntKind.wrap IntKind.i64 ((12 : Int) + Int.tmod (IntKind.wrap IntKind.i64 n) (13 : Int)))), Prod.snd (shape19 more m (IntKind.wrap IntKind.i64 ((12 :
  Int) + Int.tmod (IntKind.wrap IntKind.i64 n) (13 : Int))))) (IntKind.wrap IntKind.i64 ((12 : Int) + Int.tmod (IntKind.wrap IntKind.i64 n) (13 : Int))) = (0 : Int)) else false) = b_1 → ((b = true → b = true) ∧ (b = true →
  b = true) ∧ (b_1 = true → b_1 = true ∧ b_1 = true) ∧ (b_1 = true → b_1 = true ∧ b_1 = true) ∧ (b_1 = true → b_1 = true ∧ b_1 = true) ∧ (b_1 = true → b_1 = true)) ∧ (bif b_1 then decide (layV (IntKind.wrap IntKind.i64 f)
  (Prod.fst (shape19 side l (IntKind.wrap IntKind.i64 ((12 : Int) + Int.tmod (IntKind.wrap IntKind.i64 n) (13 : Int)))), Prod.snd (shape19 side l (IntKind.wrap IntKind.i64 ((12 : Int) + Int.tmod (IntKind.wrap IntKind.i64 n)
  (13 : Int))))) (IntKind.wrap IntKind.i64 ((12 : Int) + Int.tmod (IntKind.wrap IntKind.i64 n) (13 : Int))) = layV (IntKind.wrap IntKind.i64 g) (Prod.fst (shape19 more m (IntKind.wrap IntKind.i64 ((12 : Int) + Int.tmod
  (IntKind.wrap IntKind.i64 n) (13 : Int)))), Prod.snd (shape19 more m (IntKind.wrap IntKind.i64 ((12 : Int) + Int.tmod (IntKind.wrap IntKind.i64 n) (13 : Int))))) (IntKind.wrap IntKind.i64 ((12 : Int) + Int.tmod
  (IntKind.wrap IntKind.i64 n) (13 : Int)))) == Ty.eqb (Ty.cons (Ty.int IntKind.i64) (Ty.last (Ty.cons (Ty.arr (8 : Nat) (Ty.int IntKind.i64)) (Ty.last (Ty.arr (8 : Nat) (Ty.arr (4 : Nat) (Ty.int IntKind.i64)))))))
  (IntKind.wrap IntKind.i64 f, Prod.fst (shape19 side l (IntKind.wrap IntKind.i64 ((12 : Int) + Int.tmod (IntKind.wrap IntKind.i64 n) (13 : Int)))), Prod.snd (shape19 side l (IntKind.wrap IntKind.i64 ((12 : Int) + Int.tmod
  (IntKind.wrap IntKind.i64 n) (13 : Int))))) (IntKind.wrap IntKind.i64 g, Prod.fst (shape19 more m (IntKind.wrap IntKind.i64 ((12 : Int) + Int.tmod (IntKind.wrap IntKind.i64 n) (13 : Int)))), Prod.snd (shape19 more m
  (IntKind.wrap IntKind.i64 ((12 : Int) + Int.tmod (IntKind.wrap IntKind.i64 n) (13 : Int))))) else false) = true
theorem vcq4 (f g : Int) (side more l m : List Int) (n : Int) : Pq4 f g side more l m n = vcFun Cq4 (annq4 f g side more l m n) Go.Proofs.Try.f4 [⟨.int .u16, f⟩, ⟨.int .u16, g⟩, ⟨.arr 8 (.int .i64), side⟩, ⟨.arr 8 (.int .i64), more⟩, ⟨.arr 8 (.int .u32), l⟩, ⟨.arr 8 (.int .u32), m⟩, ⟨.int .u8, n⟩] [] (outq4 f g side more l m n) := by kernel_rfl

noncomputable def Cq3 : Ctx := ⟨Go.Proofs.Try.prog, D, Gq4, (fun _ _ => none), fun _ => []⟩
def annq3 (_f : Int) (_s : List Int × List (List Int)) (_n : Int) : Nat → St → Option Ann := fun _ _ => none
def outq3 (_f : Int) (_s : List Int × List (List Int)) (_n : Int) : COut := ⟨[], .v .bool true, [], []⟩
def spq3 : Spec := fun args ins => match args, ins with
  | [⟨.int .i64, f⟩, ⟨(.cons (.arr 8 (.int .i64)) (.last (.arr 8 (.arr 4 (.int .i64))))), s⟩, ⟨.int .i64, n⟩], [] => some (outq3 f s n)
  | _, _ => none
def Gq3 := addG Gq4 3 spq3
def Pq3 (f : Int) (s : List Int × List (List Int)) (n : Int) : Prop :=
  bif !packR (Prod.fst s, Prod.snd s) n == packR (Prod.fst s, Prod.snd s) n then false = true else ∀ (b : Bool), decide (n < (12 : Int)) = b → (((!b) = true → (!b) = true) ∧ (b = false → (!b) = true)) ∧ bif bif b then true
  else decide ((24 : Int) < n) then ∀ (b : Bool), decide (layE f (Prod.fst s, Prod.snd s) n = (1 : Int)) = b → ((b = true → b = true) ∧ (b = true → b = true)) ∧ (bif b then decide (layV f (Prod.fst s, Prod.snd s) n = { data
  := { toList := [] } }) else false) = true else ∀ (b : Bool), decide (f < (0 : Int)) = b → (((!b) = true → (!b) = true) ∧ (b = false → (!b) = true)) ∧ bif bif b then true else decide ((65535 : Int) < f) then ∀ (b : Bool),
  decide (layE f (Prod.fst s, Prod.snd s) n = (7 : Int)) = b → ((b = true → b = true) ∧ (b = true → b = true)) ∧ (bif b then decide (layV f (Prod.fst s, Prod.snd s) n = { data := { toList := [] } }) else false) = true else
  bif !packR (Prod.fst s, Prod.snd s) n then ∀ (b : Bool), decide (layE f (Prod.fst s, Prod.snd s) n = (3 : Int)) = b → ((b = true → b = true) ∧ (b = true → b = true)) ∧ (bif b then decide (layV f (Prod.fst s, Prod.snd s) n
  = { data := { toList := [] } }) else false) = true else bif decide (layE f (Prod.fst s, Prod.snd s) n = (0 : Int)) then (((0 : Int) ≤ f ∧ f ≤ (65535 : Int)) ∧ packR (Prod.fst s, Prod.snd s) n = true) ∧ decide (layV f
  (Prod.fst s, Prod.snd s) n = bytesOf (layS f (Prod.fst s, Prod.snd s) n)) = true else (false = true → false = true) ∧ false = true
theorem vcq3 (f : Int) (s : List Int × List (List Int)) (n : Int) : Pq3 f s n = vcFun Cq3 (annq3 f s n) Go.Proofs.Try.f3 [⟨.int .i64, f⟩, ⟨(.cons (.arr 8 (.int .i64)) (.last (.arr 8 (.arr 4 (.int .i64))))), s⟩, ⟨.int .i64, n⟩] [] (outq3 f s n) := by kernel_rfl

noncomputable def Cq6 : Ctx := ⟨Go.Proofs.Try.prog, D, Gq3, (fun _ _ => none), fun _ => []⟩
def annq6 (_f : Int) (_side _l : List Int) (_n _a _b : Int) : Nat → St → Option Ann := fun _ _ => none
def outq6 (_f : Int) (_side _l : List Int) (_n _a _b : Int) : COut := ⟨[], .v .bool true, [], []⟩
def spq6 : Spec := fun args ins => match args, ins with
  | [⟨.int .u16, f⟩, ⟨.arr 8 (.int .i64), side⟩, ⟨.arr 8 (.int .u32), l⟩, ⟨.int .u8, n⟩, ⟨.int .u8, a⟩, ⟨.int .u8, b⟩], [] => some (outq6 f side l n a b)
  | _, _ => none
def Gq6 := addG Gq3 6 spq6
def Pq6 (f : Int) (side l : List Int) (n a b : Int) : Prop :=
  (13 : Int) ≠ (0 : Int) ∧ ((12 : Int) ≤ IntKind.wrap IntKind.i64 ((12 : Int) + Int.tmod (IntKind.wrap IntKind.i64 n) (13 : Int)) ∧ IntKind.wrap IntKind.i64 ((12 : Int) + Int.tmod (IntKind.wrap IntKind.i64 n) (13 : Int)) ≤
  (24 : Int)) ∧ ∀ (b_1 : Bool), (!decide (layE (IntKind.wrap IntKind.i64 f) (Prod.fst (shape19 side l (IntKind.wrap IntKind.i64 ((12 : Int) + Int.tmod (IntKind.wrap IntKind.i64 n) (13 : Int)))), Prod.snd (shape19 side l
  (IntKind.wrap IntKind.i64 ((12 : Int) + Int.tmod (IntKind.wrap IntKind.i64 n) (13 : Int))))) (IntKind.wrap IntKind.i64 ((12 : Int) + Int.tmod (IntKind.wrap IntKind.i64 n) (13 : Int))) = (0 : Int))) = b_1 → ∀ (b_2 : Bool),
  (bif b_1 then true else !decide (readE (layV (IntKind.wrap IntKind.i64 f) (Prod.fst (shape19 side l (IntKind.wrap IntKind.i64 ((12 : Int) + Int.tmod (IntKind.wrap IntKind.i64 n) (13 : Int)))), Prod.snd (shape19 side l
  (IntKind.wrap IntKind.i64 ((12 : Int) + Int.tmod (IntKind.wrap IntKind.i64 n) (13 : Int))))) (IntKind.wrap IntKind.i64 ((12 : Int) + Int.tmod (IntKind.wrap IntKind.i64 n) (13 : Int)))) = (0 : Int))) = b_2 → ∀ (b_3 :
  Bool), (bif b_2 then true else !Ty.eqb (Ty.cons (Ty.int IntKind.i64) (Ty.last (Ty.cons (Ty.arr (8 : Nat) (Ty.int IntKind.i64)) (Ty.last (Ty.arr (8 : Nat) (Ty.arr (4 : Nat) (Ty.int IntKind.i64))))))) (Prod.fst (readV (layV
  (IntKind.wrap IntKind.i64 f) (Prod.fst (shape19 side l (IntKind.wrap IntKind.i64 ((12 : Int) + Int.tmod (IntKind.wrap IntKind.i64 n) (13 : Int)))), Prod.snd (shape19 side l (IntKind.wrap IntKind.i64 ((12 : Int) + Int.tmod
  (IntKind.wrap IntKind.i64 n) (13 : Int))))) (IntKind.wrap IntKind.i64 ((12 : Int) + Int.tmod (IntKind.wrap IntKind.i64 n) (13 : Int))))), Prod.fst (Prod.snd (readV (layV (IntKind.wrap IntKind.i64 f) (Prod.fst (shape19
  side l (IntKind.wrap IntKind.i64 ((12 : Int) + Int.tmod (IntKind.wrap IntKind.i64 n) (13 : Int)))), Prod.snd (shape19 side l (IntKind.wrap IntKind.i64 ((12 : Int) + Int.tmod (IntKind.wrap IntKind.i64 n) (13 : Int)))))
  (IntKind.wrap IntKind.i64 ((12 : Int) + Int.tmod (IntKind.wrap IntKind.i64 n) (13 : Int)))))), Prod.snd (Prod.snd (readV (layV (IntKind.wrap IntKind.i64 f) (Prod.fst (shape19 side l (IntKind.wrap IntKind.i64 ((12 : Int) +
  Int.tmod (IntKind.wrap IntKind.i64 n) (13 : Int)))), Prod.snd (shape19 side l (IntKind.wrap IntKind.i64 ((12 : Int) + Int.tmod (IntKind.wrap IntKind.i64 n) (13 : Int))))) (IntKind.wrap IntKind.i64 ((12 : Int) + Int.tmod
  (IntKind.wrap IntKind.i64 n) (13 : Int))))))) (IntKind.wrap IntKind.i64 f, Prod.fst (shape19 side l (IntKind.wrap IntKind.i64 ((12 : Int) + Int.tmod (IntKind.wrap IntKind.i64 n) (13 : Int)))), Prod.snd (shape19 side l
  (IntKind.wrap IntKind.i64 ((12 : Int) + Int.tmod (IntKind.wrap IntKind.i64 n) (13 : Int)))))) = b_3 → bif bif b_3 then true else !decide ((↑(ByteArray.size (layV (IntKind.wrap IntKind.i64 f) (Prod.fst (shape19 side l
  (IntKind.wrap IntKind.i64 ((12 : Int) + Int.tmod (IntKind.wrap IntKind.i64 n) (13 : Int)))), Prod.snd (shape19 side l (IntKind.wrap IntKind.i64 ((12 : Int) + Int.tmod (IntKind.wrap IntKind.i64 n) (13 : Int)))))
  (IntKind.wrap IntKind.i64 ((12 : Int) + Int.tmod (IntKind.wrap IntKind.i64 n) (13 : Int))))) : Int) = IntKind.wrap IntKind.i64 ((12 : Int) + Int.tmod (IntKind.wrap IntKind.i64 n) (13 : Int))) then (((!b_1) = true → (!b_1)
  = true) ∧ (b_1 = false → (!b_1) = true) ∧ ((!b_2) = true → (!b_2) = true ∧ (!b_2) = true) ∧ (b_2 = false → (!b_2) = true) ∧ ((!b_3) = true → (!b_3) = true) ∧ ((!b_3) = true → (!b_3) = true ∧ (!b_3) = true) ∧ (b_3 = false
  → (!b_3) = true) ∧ (true = false → false = true)) ∧ false = true else (((!b_1) = true → (!b_1) = true) ∧ (b_1 = false → (!b_1) = true) ∧ ((!b_2) = true → (!b_2) = true ∧ (!b_2) = true) ∧ (b_2 = false → (!b_2) = true) ∧
  ((!b_3) = true → (!b_3) = true) ∧ ((!b_3) = true → (!b_3) = true ∧ (!b_3) = true) ∧ (b_3 = false → (!b_3) = true)) ∧ bif !packR (Prod.fst (shape19 side l (IntKind.wrap IntKind.i64 ((12 : Int) + Int.tmod (IntKind.wrap
  IntKind.i64 n) (13 : Int)))), Prod.snd (shape19 side l (IntKind.wrap IntKind.i64 ((12 : Int) + Int.tmod (IntKind.wrap IntKind.i64 n) (13 : Int))))) (IntKind.wrap IntKind.i64 ((12 : Int) + Int.tmod (IntKind.wrap
  IntKind.i64 n) (13 : Int))) then false = true else (IntKind.wrap IntKind.i64 ((12 : Int) + Int.tmod (IntKind.wrap IntKind.i64 n) (13 : Int)) ≠ (0 : Int) ∧ ((0 : Int) ≤ Int.tmod (IntKind.wrap IntKind.i64 a) (IntKind.wrap
  IntKind.i64 ((12 : Int) + Int.tmod (IntKind.wrap IntKind.i64 n) (13 : Int))) ∧ Int.tmod (IntKind.wrap IntKind.i64 a) (IntKind.wrap IntKind.i64 ((12 : Int) + Int.tmod (IntKind.wrap IntKind.i64 n) (13 : Int))) <
  (↑(ByteArray.size (layV (IntKind.wrap IntKind.i64 f) (Prod.fst (shape19 side l (IntKind.wrap IntKind.i64 ((12 : Int) + Int.tmod (IntKind.wrap IntKind.i64 n) (13 : Int)))), Prod.snd (shape19 side l (IntKind.wrap
  IntKind.i64 ((12 : Int) + Int.tmod (IntKind.wrap IntKind.i64 n) (13 : Int))))) (IntKind.wrap IntKind.i64 ((12 : Int) + Int.tmod (IntKind.wrap IntKind.i64 n) (13 : Int))))) : Int)) ∧ (0 : Nat) + Int.toNat (Int.tmod
  (IntKind.wrap IntKind.i64 a) (IntKind.wrap IntKind.i64 ((12 : Int) + Int.tmod (IntKind.wrap IntKind.i64 n) (13 : Int)))) < List.length (ofBytes (layV (IntKind.wrap IntKind.i64 f) (Prod.fst (shape19 side l (IntKind.wrap
  IntKind.i64 ((12 : Int) + Int.tmod (IntKind.wrap IntKind.i64 n) (13 : Int)))), Prod.snd (shape19 side l (IntKind.wrap IntKind.i64 ((12 : Int) + Int.tmod (IntKind.wrap IntKind.i64 n) (13 : Int))))) (IntKind.wrap
  IntKind.i64 ((12 : Int) + Int.tmod (IntKind.wrap IntKind.i64 n) (13 : Int))))) ∧ ((0 : Int) ≤ Int.tmod (IntKind.wrap IntKind.i64 a) (IntKind.wrap IntKind.i64 ((12 : Int) + Int.tmod (IntKind.wrap IntKind.i64 n) (13 :
  Int))) ∧ Int.tmod (IntKind.wrap IntKind.i64 a) (IntKind.wrap IntKind.i64 ((12 : Int) + Int.tmod (IntKind.wrap IntKind.i64 n) (13 : Int))) < (↑(ByteArray.size (layV (IntKind.wrap IntKind.i64 f) (Prod.fst (shape19 side l
  (IntKind.wrap IntKind.i64 ((12 : Int) + Int.tmod (IntKind.wrap IntKind.i64 n) (13 : Int)))), Prod.snd (shape19 side l (IntKind.wrap IntKind.i64 ((12 : Int) + Int.tmod (IntKind.wrap IntKind.i64 n) (13 : Int)))))
  (IntKind.wrap IntKind.i64 ((12 : Int) + Int.tmod (IntKind.wrap IntKind.i64 n) (13 : Int))))) : Int)) ∧ (0 : Nat) + Int.toNat (Int.tmod (IntKind.wrap IntKind.i64 a) (IntKind.wrap IntKind.i64 ((12 : Int) + Int.tmod
  (IntKind.wrap IntKind.i64 n) (13 : Int)))) < List.length (ofBytes (layV (IntKind.wrap IntKind.i64 f) (Prod.fst (shape19 side l (IntKind.wrap IntKind.i64 ((12 : Int) + Int.tmod (IntKind.wrap IntKind.i64 n) (13 : Int)))),
  Prod.snd (shape19 side l (IntKind.wrap IntKind.i64 ((12 : Int) + Int.tmod (IntKind.wrap IntKind.i64 n) (13 : Int))))) (IntKind.wrap IntKind.i64 ((12 : Int) + Int.tmod (IntKind.wrap IntKind.i64 n) (13 : Int)))))) ∧ (0 :
  Nat) + ByteArray.size (layV (IntKind.wrap IntKind.i64 f) (Prod.fst (shape19 side l (IntKind.wrap IntKind.i64 ((12 : Int) + Int.tmod (IntKind.wrap IntKind.i64 n) (13 : Int)))), Prod.snd (shape19 side l (IntKind.wrap
  IntKind.i64 ((12 : Int) + Int.tmod (IntKind.wrap IntKind.i64 n) (13 : Int))))) (IntKind.wrap IntKind.i64 ((12 : Int) + Int.tmod (IntKind.wrap IntKind.i64 n) (13 : Int)))) ≤ List.length (List.set (ofBytes (layV
  (IntKind.wrap IntKind.i64 f) (Prod.fst (shape19 side l (IntKind.wrap IntKind.i64 ((12 : Int) + Int.tmod (IntKind.wrap IntKind.i64 n) (13 : Int)))), Prod.snd (shape19 side l (IntKind.wrap IntKind.i64 ((12 : Int) + Int.tmod
  (IntKind.wrap IntKind.i64 n) (13 : Int))))) (IntKind.wrap IntKind.i64 ((12 : Int) + Int.tmod (IntKind.wrap IntKind.i64 n) (13 : Int))))) ((0 : Nat) + Int.toNat (Int.tmod (IntKind.wrap IntKind.i64 a) (IntKind.wrap
  IntKind.i64 ((12 : Int) + Int.tmod (IntKind.wrap IntKind.i64 n) (13 : Int))))) (ixor IntKind.u8 (List.getD (ofBytes (layV (IntKind.wrap IntKind.i64 f) (Prod.fst (shape19 side l (IntKind.wrap IntKind.i64 ((12 : Int) +
  Int.tmod (IntKind.wrap IntKind.i64 n) (13 : Int)))), Prod.snd (shape19 side l (IntKind.wrap IntKind.i64 ((12 : Int) + Int.tmod (IntKind.wrap IntKind.i64 n) (13 : Int))))) (IntKind.wrap IntKind.i64 ((12 : Int) + Int.tmod
  (IntKind.wrap IntKind.i64 n) (13 : Int))))) ((0 : Nat) + Int.toNat (Int.tmod (IntKind.wrap IntKind.i64 a) (IntKind.wrap IntKind.i64 ((12 : Int) + Int.tmod (IntKind.wrap IntKind.i64 n) (13 : Int))))) (0 : Int)) b)) ∧ ∀
  (b_4 : Bool), decide (readE (layV (IntKind.wrap IntKind.i64 f) (Prod.fst (shape19 side l (IntKind.wrap IntKind.i64 ((12 : Int) + Int.tmod (IntKind.wrap IntKind.i64 n) (13 : Int)))), Prod.snd (shape19 side l (IntKind.wrap
  IntKind.i64 ((12 : Int) + Int.tmod (IntKind.wrap IntKind.i64 n) (13 : Int))))) (IntKind.wrap IntKind.i64 ((12 : Int) + Int.tmod (IntKind.wrap IntKind.i64 n) (13 : Int)))) = (0 : Int)) = b_4 → ∀ (b_5 : Bool), (bif b_4 then
  decide (Prod.fst (readV (layV (IntKind.wrap IntKind.i64 f) (Prod.fst (shape19 side l (IntKind.wrap IntKind.i64 ((12 : Int) + Int.tmod (IntKind.wrap IntKind.i64 n) (13 : Int)))), Prod.snd (shape19 side l (IntKind.wrap
  IntKind.i64 ((12 : Int) + Int.tmod (IntKind.wrap IntKind.i64 n) (13 : Int))))) (IntKind.wrap IntKind.i64 ((12 : Int) + Int.tmod (IntKind.wrap IntKind.i64 n) (13 : Int))))) = IntKind.wrap IntKind.i64 f) else false) = b_5 →
  ∀ (b_6 : Bool), decide (b = (0 : Int)) = b_6 → ∀ (b_7 : Bool), (bif b_6 then decide (readE (bytesOf (seg (List.set (ofBytes (layV (IntKind.wrap IntKind.i64 f) (Prod.fst (shape19 side l (IntKind.wrap IntKind.i64 ((12 :
  Int) + Int.tmod (IntKind.wrap IntKind.i64 n) (13 : Int)))), Prod.snd (shape19 side l (IntKind.wrap IntKind.i64 ((12 : Int) + Int.tmod (IntKind.wrap IntKind.i64 n) (13 : Int))))) (IntKind.wrap IntKind.i64 ((12 : Int) +
  Int.tmod (IntKind.wrap IntKind.i64 n) (13 : Int))))) ((0 : Nat) + Int.toNat (Int.tmod (IntKind.wrap IntKind.i64 a) (IntKind.wrap IntKind.i64 ((12 : Int) + Int.tmod (IntKind.wrap IntKind.i64 n) (13 : Int))))) (ixor
  IntKind.u8 (List.getD (ofBytes (layV (IntKind.wrap IntKind.i64 f) (Prod.fst (shape19 side l (IntKind.wrap IntKind.i64 ((12 : Int) + Int.tmod (IntKind.wrap IntKind.i64 n) (13 : Int)))), Prod.snd (shape19 side l
  (IntKind.wrap IntKind.i64 ((12 : Int) + Int.tmod (IntKind.wrap IntKind.i64 n) (13 : Int))))) (IntKind.wrap IntKind.i64 ((12 : Int) + Int.tmod (IntKind.wrap IntKind.i64 n) (13 : Int))))) ((0 : Nat) + Int.toNat (Int.tmod
  (IntKind.wrap IntKind.i64 a) (IntKind.wrap IntKind.i64 ((12 : Int) + Int.tmod (IntKind.wrap IntKind.i64 n) (13 : Int))))) (0 : Int)) b)) (0 : Nat) (ByteArray.size (layV (IntKind.wrap IntKind.i64 f) (Prod.fst (shape19 side
  l (IntKind.wrap IntKind.i64 ((12 : Int) + Int.tmod (IntKind.wrap IntKind.i64 n) (13 : Int)))), Prod.snd (shape19 side l (IntKind.wrap IntKind.i64 ((12 : Int) + Int.tmod (IntKind.wrap IntKind.i64 n) (13 : Int)))))
  (IntKind.wrap IntKind.i64 ((12 : Int) + Int.tmod (IntKind.wrap IntKind.i64 n) (13 : Int))))))) = (0 : Int)) else false) = b_7 → ∀ (b_8 : Bool), (!decide (b = (0 : Int))) = b_8 → ∀ (b_9 : Bool), (bif b_8 then decide (readE
  (bytesOf (seg (List.set (ofBytes (layV (IntKind.wrap IntKind.i64 f) (Prod.fst (shape19 side l (IntKind.wrap IntKind.i64 ((12 : Int) + Int.tmod (IntKind.wrap IntKind.i64 n) (13 : Int)))), Prod.snd (shape19 side l
  (IntKind.wrap IntKind.i64 ((12 : Int) + Int.tmod (IntKind.wrap IntKind.i64 n) (13 : Int))))) (IntKind.wrap IntKind.i64 ((12 : Int) + Int.tmod (IntKind.wrap IntKind.i64 n) (13 : Int))))) ((0 : Nat) + Int.toNat (Int.tmod
  (IntKind.wrap IntKind.i64 a) (IntKind.wrap IntKind.i64 ((12 : Int) + Int.tmod (IntKind.wrap IntKind.i64 n) (13 : Int))))) (ixor IntKind.u8 (List.getD (ofBytes (layV (IntKind.wrap IntKind.i64 f) (Prod.fst (shape19 side l
  (IntKind.wrap IntKind.i64 ((12 : Int) + Int.tmod (IntKind.wrap IntKind.i64 n) (13 : Int)))), Prod.snd (shape19 side l (IntKind.wrap IntKind.i64 ((12 : Int) + Int.tmod (IntKind.wrap IntKind.i64 n) (13 : Int)))))
  (IntKind.wrap IntKind.i64 ((12 : Int) + Int.tmod (IntKind.wrap IntKind.i64 n) (13 : Int))))) ((0 : Nat) + Int.toNat (Int.tmod (IntKind.wrap IntKind.i64 a) (IntKind.wrap IntKind.i64 ((12 : Int) + Int.tmod (IntKind.wrap
  IntKind.i64 n) (13 : Int))))) (0 : Int)) b)) (0 : Nat) (ByteArray.size (layV (IntKind.wrap IntKind.i64 f) (Prod.fst (shape19 side l (IntKind.wrap IntKind.i64 ((12 : Int) + Int.tmod (IntKind.wrap IntKind.i64 n) (13 :
  Int)))), Prod.snd (shape19 side l (IntKind.wrap IntKind.i64 ((12 : Int) + Int.tmod (IntKind.wrap IntKind.i64 n) (13 : Int))))) (IntKind.wrap IntKind.i64 ((12 : Int) + Int.tmod (IntKind.wrap IntKind.i64 n) (13 : Int)))))))
  = (4 : Int)) else false) = b_9 → ((b_4 = true → b_4 = true) ∧ (b_4 = true → b_4 = true ∧ b_4 = true) ∧ (b_4 = true → b_4 = true) ∧ (b_5 = true → b_5 = true) ∧ ((b_5 && b_5 && b_6) = true → (b_5 && b_5 && b_6) = true) ∧
  (b_5 = true → (b_5 && b_5) = true ∧ (b_6 = true → (b_5 && b_5 && b_6) = true)) ∧ ((b_5 && b_5 && !b_7) = true → (b_5 && b_5 && !b_7) = true) ∧ ((b_5 && b_5 && !b_7 && (b_5 && b_5 && !b_7) && b_8) = true → (b_5 && b_5 &&
  !b_7 && (b_5 && b_5 && !b_7) && b_8) = true) ∧ ((b_5 && b_5 && !b_7) = true → (b_5 && b_5 && !b_7 && (b_5 && b_5 && !b_7)) = true ∧ (b_8 = true → (b_5 && b_5 && !b_7 && (b_5 && b_5 && !b_7) && b_8) = true)) ∧ ((b_5 && b_5
  && !b_7 && (b_5 && b_5 && !b_7) && b_9) = true → (b_5 && b_5 && !b_7 && (b_5 && b_5 && !b_7) && b_9) = true ∧ (b_5 && b_5 && !b_7 && (b_5 && b_5 && !b_7) && b_9) = true) ∧ ((b_5 && b_5 && !b_7) = true → (b_5 && b_5 &&
  !b_7 && (b_5 && b_5 && !b_7)) = true ∧ (b_9 = true → (b_5 && b_5 && !b_7 && (b_5 && b_5 && !b_7) && b_9) = true)) ∧ (b_5 = true → (b_5 && b_5) = true ∧ (b_7 = false → (b_5 && b_5 && !b_7) = true)) ∧ (b_5 = true → b_5 =
  true)) ∧ (bif b_5 then bif b_7 then true else bif b_9 then Ty.eqb (Ty.cons (Ty.int IntKind.i64) (Ty.last (Ty.cons (Ty.arr (8 : Nat) (Ty.int IntKind.i64)) (Ty.last (Ty.arr (8 : Nat) (Ty.arr (4 : Nat) (Ty.int
  IntKind.i64))))))) (Prod.fst (readV (bytesOf (seg (List.set (ofBytes (layV (IntKind.wrap IntKind.i64 f) (Prod.fst (shape19 side l (IntKind.wrap IntKind.i64 ((12 : Int) + Int.tmod (IntKind.wrap IntKind.i64 n) (13 :
  Int)))), Prod.snd (shape19 side l (IntKind.wrap IntKind.i64 ((12 : Int) + Int.tmod (IntKind.wrap IntKind.i64 n) (13 : Int))))) (IntKind.wrap IntKind.i64 ((12 : Int) + Int.tmod (IntKind.wrap IntKind.i64 n) (13 : Int)))))
  ((0 : Nat) + Int.toNat (Int.tmod (IntKind.wrap IntKind.i64 a) (IntKind.wrap IntKind.i64 ((12 : Int) + Int.tmod (IntKind.wrap IntKind.i64 n) (13 : Int))))) (ixor IntKind.u8 (List.getD (ofBytes (layV (IntKind.wrap
  IntKind.i64 f) (Prod.fst (shape19 side l (IntKind.wrap IntKind.i64 ((12 : Int) + Int.tmod (IntKind.wrap IntKind.i64 n) (13 : Int)))), Prod.snd (shape19 side l (IntKind.wrap IntKind.i64 ((12 : Int) + Int.tmod (IntKind.wrap
  IntKind.i64 n) (13 : Int))))) (IntKind.wrap IntKind.i64 ((12 : Int) + Int.tmod (IntKind.wrap IntKind.i64 n) (13 : Int))))) ((0 : Nat) + Int.toNat (Int.tmod (IntKind.wrap IntKind.i64 a) (IntKind.wrap IntKind.i64 ((12 :
  Int) + Int.tmod (IntKind.wrap IntKind.i64 n) (13 : Int))))) (0 : Int)) b)) (0 : Nat) (ByteArray.size (layV (IntKind.wrap IntKind.i64 f) (Prod.fst (shape19 side l (IntKind.wrap IntKind.i64 ((12 : Int) + Int.tmod
  (IntKind.wrap IntKind.i64 n) (13 : Int)))), Prod.snd (shape19 side l (IntKind.wrap IntKind.i64 ((12 : Int) + Int.tmod (IntKind.wrap IntKind.i64 n) (13 : Int))))) (IntKind.wrap IntKind.i64 ((12 : Int) + Int.tmod
  (IntKind.wrap IntKind.i64 n) (13 : Int)))))))), Prod.fst (Prod.snd (readV (bytesOf (seg (List.set (ofBytes (layV (IntKind.wrap IntKind.i64 f) (Prod.fst (shape19 side l (IntKind.wrap IntKind.i64 ((12 : Int) + Int.tmod
  (IntKind.wrap IntKind.i64 n) (13 : Int)))), Prod.snd (shape19 side l (IntKind.wrap IntKind.i64 ((12 : Int) + Int.tmod (IntKind.wrap IntKind.i64 n) (13 : Int))))) (IntKind.wrap IntKind.i64 ((12 : Int) + Int.tmod
  (IntKind.wrap IntKind.i64 n) (13 : Int))))) ((0 : Nat) + Int.toNat (Int.tmod (IntKind.wrap IntKind.i64 a) (IntKind.wrap IntKind.i64 ((12 : Int) + Int.tmod (IntKind.wrap IntKind.i64 n) (13 : Int))))) (ixor IntKind.u8
  (List.getD (ofBytes (layV (IntKind.wrap IntKind.i64 f) (Prod.fst (shape19 side l (IntKind.wrap IntKind.i64 ((12 : Int) + Int.tmod (IntKind.wrap IntKind.i64 n) (13 : Int)))), Prod.snd (shape19 side l (IntKind.wrap
  IntKind.i64 ((12 : Int) + Int.tmod (IntKind.wrap IntKind.i64 n) (13 : Int))))) (IntKind.wrap IntKind.i64 ((12 : Int) + Int.tmod (IntKind.wrap IntKind.i64 n) (13 : Int))))) ((0 : Nat) + Int.toNat (Int.tmod (IntKind.wrap
  IntKind.i64 a) (IntKind.wrap IntKind.i64 ((12 : Int) + Int.tmod (IntKind.wrap IntKind.i64 n) (13 : Int))))) (0 : Int)) b)) (0 : Nat) (ByteArray.size (layV (IntKind.wrap IntKind.i64 f) (Prod.fst (shape19 side l
  (IntKind.wrap IntKind.i64 ((12 : Int) + Int.tmod (IntKind.wrap IntKind.i64 n) (13 : Int)))), Prod.snd (shape19 side l (IntKind.wrap IntKind.i64 ((12 : Int) + Int.tmod (IntKind.wrap IntKind.i64 n) (13 : Int)))))
  (IntKind.wrap IntKind.i64 ((12 : Int) + Int.tmod (IntKind.wrap IntKind.i64 n) (13 : Int))))))))), Prod.snd (Prod.snd (readV (bytesOf (seg (List.set (ofBytes (layV (IntKind.wrap IntKind.i64 f) (Prod.fst (shape19 side l
  (IntKind.wrap IntKind.i64 ((12 : Int) + Int.tmod (IntKind.wrap IntKind.i64 n) (13 : Int)))), Prod.snd (shape19 side l (IntKind.wrap IntKind.i64 ((12 : Int) + Int.tmod (IntKind.wrap IntKind.i64 n) (13 : Int)))))
  (IntKind.wrap IntKind.i64 ((12 : Int) + Int.tmod (IntKind.wrap IntKind.i64 n) (13 : Int))))) ((0 : Nat) + Int.toNat (Int.tmod (IntKind.wrap IntKind.i64 a) (IntKind.wrap IntKind.i64 ((12 : Int) + Int.tmod (IntKind.wrap
  IntKind.i64 n) (13 : Int))))) (ixor IntKind.u8 (List.getD (ofBytes (layV (IntKind.wrap IntKind.i64 f) (Prod.fst (shape19 side l (IntKind.wrap IntKind.i64 ((12 : Int) + Int.tmod (IntKind.wrap IntKind.i64 n) (13 : Int)))),
  Prod.snd (shape19 side l (IntKind.wrap IntKind.i64 ((12 : Int) + Int.tmod (IntKind.wrap IntKind.i64 n) (13 : Int))))) (IntKind.wrap IntKind.i64 ((12 : Int) + Int.tmod (IntKind.wrap IntKind.i64 n) (13 : Int))))) ((0 : Nat)
  + Int.toNat (Int.tmod (IntKind.wrap IntKind.i64 a) (IntKind.wrap IntKind.i64 ((12 : Int) + Int.tmod (IntKind.wrap IntKind.i64 n) (13 : Int))))) (0 : Int)) b)) (0 : Nat) (ByteArray.size (layV (IntKind.wrap IntKind.i64 f)
  (Prod.fst (shape19 side l (IntKind.wrap IntKind.i64 ((12 : Int) + Int.tmod (IntKind.wrap IntKind.i64 n) (13 : Int)))), Prod.snd (shape19 side l (IntKind.wrap IntKind.i64 ((12 : Int) + Int.tmod (IntKind.wrap IntKind.i64 n)
  (13 : Int))))) (IntKind.wrap IntKind.i64 ((12 : Int) + Int.tmod (IntKind.wrap IntKind.i64 n) (13 : Int)))))))))) ((0 : Int), List.replicate (8 : Nat) (0 : Int), List.replicate (8 : Nat) (List.replicate (4 : Nat) (0 :
  Int))) else false else false) = true
theorem vcq6 (f : Int) (side l : List Int) (n a b : Int) : Pq6 f side l n a b = vcFun Cq6 (annq6 f side l n a b) Go.Proofs.Try.f6 [⟨.int .u16, f⟩, ⟨.arr 8 (.int .i64), side⟩, ⟨.arr 8 (.int .u32), l⟩, ⟨.int .u8, n⟩, ⟨.int .u8, a⟩, ⟨.int .u8, b⟩] [] (outq6 f side l n a b) := by kernel_rfl

noncomputable def Cq7 : Ctx := ⟨Go.Proofs.Try.prog, D, Gq6, (fun _ _ => none), fun _ => []⟩
def annq7 (_s : ByteArray) : Nat → St → Option Ann := fun _ _ => none
def outq7 (_s : ByteArray) : COut := ⟨[], .v .bool true, [], []⟩
def spq7 : Spec := fun args ins => match args, ins with
  | [⟨.str, s⟩], [] => some (outq7 s)
  | _, _ => none
def Gq7 := addG Gq6 7 spq7
def Pq7 (s : ByteArray) : Prop :=
  ∀ (b : Bool), false = b → (((!b) = true → (!b) = true) ∧ ((!b) = true → (!b) = true) ∧ (b = false → (!b) = true)) ∧ bif bif b then true else decide ((200 : Int) < (↑(ByteArray.size s) : Int)) then true = true else bif
  decide ((2 : Int) ≤ (↑(ByteArray.size s) : Int)) then ((0 : Int) ≤ IntKind.wrap IntKind.i64 ((↑(ByteArray.size s) : Int) - (2 : Int)) ∧ IntKind.wrap IntKind.i64 ((↑(ByteArray.size s) : Int) - (2 : Int)) ≤
  (↑(ByteArray.size s) : Int) ∧ ((0 : Int) ≤ (65535 : Int) ∧ (65535 : Int) < (65536 : Int)) ∧ ByteArray.size (ByteArray.extract s (0 : Nat) ((0 : Nat) + (Int.toNat (IntKind.wrap IntKind.i64 ((↑(ByteArray.size s) : Int) - (2
  : Int))) - (0 : Nat)))) ≤ (1000 : Nat)) ∧ ((0 : Int) ≤ IntKind.wrap IntKind.i64 ((↑(ByteArray.size s) : Int) - (2 : Int)) ∧ IntKind.wrap IntKind.i64 ((↑(ByteArray.size s) : Int) - (2 : Int)) ≤ (↑(ByteArray.size s) : Int)
  ∧ (256 : Int) ≠ (0 : Int) ∧ (256 : Int) ≠ (0 : Int) ∧ (2 : Nat) ≤ (2 : Nat) ∧ ByteArray.size (ByteArray.extract s (0 : Nat) ((0 : Nat) + (Int.toNat (IntKind.wrap IntKind.i64 ((↑(ByteArray.size s) : Int) - (2 : Int))) - (0
  : Nat)))) + ByteArray.size (bytesOf (seg (IntKind.wrap IntKind.u8 (IntKind.wrap IntKind.i64 (Int.tdiv (sumI (65535 : Int) (ofBytes (ByteArray.extract s (0 : Nat) ((0 : Nat) + (Int.toNat (IntKind.wrap IntKind.i64
  ((↑(ByteArray.size s) : Int) - (2 : Int))) - (0 : Nat)))))) (256 : Int))) :: List.set (List.replicate (nat_lit 1) (0 : Int)) (nat_lit 0) (IntKind.wrap IntKind.u8 (Int.tmod (sumI (65535 : Int) (ofBytes (ByteArray.extract s
  (0 : Nat) ((0 : Nat) + (Int.toNat (IntKind.wrap IntKind.i64 ((↑(ByteArray.size s) : Int) - (2 : Int))) - (0 : Nat)))))) (256 : Int)))) (0 : Nat) (2 : Nat))) ≤ (9223372036854775807 : Nat)) ∧ ∀ (b : Bool), decide
  ((↑(ByteArray.size (ByteArray.extract s (0 : Nat) ((0 : Nat) + (Int.toNat (IntKind.wrap IntKind.i64 ((↑(ByteArray.size s) : Int) - (2 : Int))) - (0 : Nat))) ++ bytesOf (seg (IntKind.wrap IntKind.u8 (IntKind.wrap
  IntKind.i64 (Int.tdiv (sumI (65535 : Int) (ofBytes (ByteArray.extract s (0 : Nat) ((0 : Nat) + (Int.toNat (IntKind.wrap IntKind.i64 ((↑(ByteArray.size s) : Int) - (2 : Int))) - (0 : Nat)))))) (256 : Int))) :: List.set
  (List.replicate (nat_lit 1) (0 : Int)) (nat_lit 0) (IntKind.wrap IntKind.u8 (Int.tmod (sumI (65535 : Int) (ofBytes (ByteArray.extract s (0 : Nat) ((0 : Nat) + (Int.toNat (IntKind.wrap IntKind.i64 ((↑(ByteArray.size s) :
  Int) - (2 : Int))) - (0 : Nat)))))) (256 : Int)))) (0 : Nat) (2 : Nat)))) : Int) < (12 : Int)) = b → (((!b) = true → (!b) = true) ∧ ((!b) = true → (!b) = true) ∧ (b = false → (!b) = true)) ∧ bif bif b then true else
  decide ((24 : Int) < (↑(ByteArray.size (ByteArray.extract s (0 : Nat) ((0 : Nat) + (Int.toNat (IntKind.wrap IntKind.i64 ((↑(ByteArray.size s) : Int) - (2 : Int))) - (0 : Nat))) ++ bytesOf (seg (IntKind.wrap IntKind.u8
  (IntKind.wrap IntKind.i64 (Int.tdiv (sumI (65535 : Int) (ofBytes (ByteArray.extract s (0 : Nat) ((0 : Nat) + (Int.toNat (IntKind.wrap IntKind.i64 ((↑(ByteArray.size s) : Int) - (2 : Int))) - (0 : Nat)))))) (256 : Int)))
  :: List.set (List.replicate (nat_lit 1) (0 : Int)) (nat_lit 0) (IntKind.wrap IntKind.u8 (Int.tmod (sumI (65535 : Int) (ofBytes (ByteArray.extract s (0 : Nat) ((0 : Nat) + (Int.toNat (IntKind.wrap IntKind.i64
  ((↑(ByteArray.size s) : Int) - (2 : Int))) - (0 : Nat)))))) (256 : Int)))) (0 : Nat) (2 : Nat)))) : Int)) then ∀ (b : Bool), decide (readE (ByteArray.extract s (0 : Nat) ((0 : Nat) + (Int.toNat (IntKind.wrap IntKind.i64
  ((↑(ByteArray.size s) : Int) - (2 : Int))) - (0 : Nat))) ++ bytesOf (seg (IntKind.wrap IntKind.u8 (IntKind.wrap IntKind.i64 (Int.tdiv (sumI (65535 : Int) (ofBytes (ByteArray.extract s (0 : Nat) ((0 : Nat) + (Int.toNat
  (IntKind.wrap IntKind.i64 ((↑(ByteArray.size s) : Int) - (2 : Int))) - (0 : Nat)))))) (256 : Int))) :: List.set (List.replicate (nat_lit 1) (0 : Int)) (nat_lit 0) (IntKind.wrap IntKind.u8 (Int.tmod (sumI (65535 : Int)
  (ofBytes (ByteArray.extract s (0 : Nat) ((0 : Nat) + (Int.toNat (IntKind.wrap IntKind.i64 ((↑(ByteArray.size s) : Int) - (2 : Int))) - (0 : Nat)))))) (256 : Int)))) (0 : Nat) (2 : Nat))) = (1 : Int)) = b → ∀ (b_1 : Bool),
  (bif b then !decide (readE (ByteArray.extract s (0 : Nat) ((0 : Nat) + (Int.toNat (IntKind.wrap IntKind.i64 ((↑(ByteArray.size s) : Int) - (2 : Int))) - (0 : Nat))) ++ bytesOf (seg (IntKind.wrap IntKind.u8 (IntKind.wrap
  IntKind.i64 (Int.tdiv (sumI (65535 : Int) (ofBytes (ByteArray.extract s (0 : Nat) ((0 : Nat) + (Int.toNat (IntKind.wrap IntKind.i64 ((↑(ByteArray.size s) : Int) - (2 : Int))) - (0 : Nat)))))) (256 : Int))) :: List.set
  (List.replicate (nat_lit 1) (0 : Int)) (nat_lit 0) (IntKind.wrap IntKind.u8 (Int.tmod (sumI (65535 : Int) (ofBytes (ByteArray.extract s (0 : Nat) ((0 : Nat) + (Int.toNat (IntKind.wrap IntKind.i64 ((↑(ByteArray.size s) :
  Int) - (2 : Int))) - (0 : Nat)))))) (256 : Int)))) (0 : Nat) (2 : Nat))) = (0 : Int)) else false) = b_1 → ((b = true → b = true) ∧ (b = true → b = true) ∧ (b_1 = true → b_1 = true) ∧ (b_1 = true → b_1 = true)) ∧ (bif b_1
  then decide (Prod.fst (readV (ByteArray.extract s (0 : Nat) ((0 : Nat) + (Int.toNat (IntKind.wrap IntKind.i64 ((↑(ByteArray.size s) : Int) - (2 : Int))) - (0 : Nat))) ++ bytesOf (seg (IntKind.wrap IntKind.u8 (IntKind.wrap
  IntKind.i64 (Int.tdiv (sumI (65535 : Int) (ofBytes (ByteArray.extract s (0 : Nat) ((0 : Nat) + (Int.toNat (IntKind.wrap IntKind.i64 ((↑(ByteArray.size s) : Int) - (2 : Int))) - (0 : Nat)))))) (256 : Int))) :: List.set
  (List.replicate (nat_lit 1) (0 : Int)) (nat_lit 0) (IntKind.wrap IntKind.u8 (Int.tmod (sumI (65535 : Int) (ofBytes (ByteArray.extract s (0 : Nat) ((0 : Nat) + (Int.toNat (IntKind.wrap IntKind.i64 ((↑(ByteArray.size s) :
  Int) - (2 : Int))) - (0 : Nat)))))) (256 : Int)))) (0 : Nat) (2 : Nat)))) = (0 : Int)) else false) = true else bif !decide (readE (ByteArray.extract s (0 : Nat) ((0 : Nat) + (Int.toNat (IntKind.wrap IntKind.i64
  ((↑(ByteArray.size s) : Int) - (2 : Int))) - (0 : Nat))) ++ bytesOf (seg (IntKind.wrap IntKind.u8 (IntKind.wrap IntKind.i64 (Int.tdiv (sumI (65535 : Int) (ofBytes (ByteArray.extract s (0 : Nat) ((0 : Nat) + (Int.toNat
  (IntKind.wrap IntKind.i64 ((↑(ByteArray.size s) : Int) - (2 : Int))) - (0 : Nat)))))) (256 : Int))) :: List.set (List.replicate (nat_lit 1) (0 : Int)) (nat_lit 0) (IntKind.wrap IntKind.u8 (Int.tmod (sumI (65535 : Int)
  (ofBytes (ByteArray.extract s (0 : Nat) ((0 : Nat) + (Int.toNat (IntKind.wrap IntKind.i64 ((↑(ByteArray.size s) : Int) - (2 : Int))) - (0 : Nat)))))) (256 : Int)))) (0 : Nat) (2 : Nat))) = (0 : Int)) then ∀ (b : Bool),
  decide (readE (ByteArray.extract s (0 : Nat) ((0 : Nat) + (Int.toNat (IntKind.wrap IntKind.i64 ((↑(ByteArray.size s) : Int) - (2 : Int))) - (0 : Nat))) ++ bytesOf (seg (IntKind.wrap IntKind.u8 (IntKind.wrap IntKind.i64
  (Int.tdiv (sumI (65535 : Int) (ofBytes (ByteArray.extract s (0 : Nat) ((0 : Nat) + (Int.toNat (IntKind.wrap IntKind.i64 ((↑(ByteArray.size s) : Int) - (2 : Int))) - (0 : Nat)))))) (256 : Int))) :: List.set (List.replicate
  (nat_lit 1) (0 : Int)) (nat_lit 0) (IntKind.wrap IntKind.u8 (Int.tmod (sumI (65535 : Int) (ofBytes (ByteArray.extract s (0 : Nat) ((0 : Nat) + (Int.toNat (IntKind.wrap IntKind.i64 ((↑(ByteArray.size s) : Int) - (2 :
  Int))) - (0 : Nat)))))) (256 : Int)))) (0 : Nat) (2 : Nat))) = (3 : Int)) = b → ∀ (b_1 : Bool), (bif b then !decide (readE (ByteArray.extract s (0 : Nat) ((0 : Nat) + (Int.toNat (IntKind.wrap IntKind.i64
  ((↑(ByteArray.size s) : Int) - (2 : Int))) - (0 : Nat))) ++ bytesOf (seg (IntKind.wrap IntKind.u8 (IntKind.wrap IntKind.i64 (Int.tdiv (sumI (65535 : Int) (ofBytes (ByteArray.extract s (0 : Nat) ((0 : Nat) + (Int.toNat
  (IntKind.wrap IntKind.i64 ((↑(ByteArray.size s) : Int) - (2 : Int))) - (0 : Nat)))))) (256 : Int))) :: List.set (List.replicate (nat_lit 1) (0 : Int)) (nat_lit 0) (IntKind.wrap IntKind.u8 (Int.tmod (sumI (65535 : Int)
  (ofBytes (ByteArray.extract s (0 : Nat) ((0 : Nat) + (Int.toNat (IntKind.wrap IntKind.i64 ((↑(ByteArray.size s) : Int) - (2 : Int))) - (0 : Nat)))))) (256 : Int)))) (0 : Nat) (2 : Nat))) = (0 : Int)) else false) = b_1 → ∀
  (b_2 : Bool), (bif b_1 then decide (Prod.fst (readV (ByteArray.extract s (0 : Nat) ((0 : Nat) + (Int.toNat (IntKind.wrap IntKind.i64 ((↑(ByteArray.size s) : Int) - (2 : Int))) - (0 : Nat))) ++ bytesOf (seg (IntKind.wrap
  IntKind.u8 (IntKind.wrap IntKind.i64 (Int.tdiv (sumI (65535 : Int) (ofBytes (ByteArray.extract s (0 : Nat) ((0 : Nat) + (Int.toNat (IntKind.wrap IntKind.i64 ((↑(ByteArray.size s) : Int) - (2 : Int))) - (0 : Nat)))))) (256
  : Int))) :: List.set (List.replicate (nat_lit 1) (0 : Int)) (nat_lit 0) (IntKind.wrap IntKind.u8 (Int.tmod (sumI (65535 : Int) (ofBytes (ByteArray.extract s (0 : Nat) ((0 : Nat) + (Int.toNat (IntKind.wrap IntKind.i64
  ((↑(ByteArray.size s) : Int) - (2 : Int))) - (0 : Nat)))))) (256 : Int)))) (0 : Nat) (2 : Nat)))) = (0 : Int)) else false) = b_2 → ((b = true → b = true) ∧ (b = true → b = true) ∧ (b_1 = true → b_1 = true) ∧ (b_1 = true →
  b_1 = true) ∧ (b_2 = true → b_2 = true ∧ b_2 = true) ∧ (b_2 = true → b_2 = true)) ∧ (bif b_2 then Ty.eqb (Ty.cons (Ty.int IntKind.i64) (Ty.last (Ty.cons (Ty.arr (8 : Nat) (Ty.int IntKind.i64)) (Ty.last (Ty.arr (8 : Nat)
  (Ty.arr (4 : Nat) (Ty.int IntKind.i64))))))) (Prod.fst (readV (ByteArray.extract s (0 : Nat) ((0 : Nat) + (Int.toNat (IntKind.wrap IntKind.i64 ((↑(ByteArray.size s) : Int) - (2 : Int))) - (0 : Nat))) ++ bytesOf (seg
  (IntKind.wrap IntKind.u8 (IntKind.wrap IntKind.i64 (Int.tdiv (sumI (65535 : Int) (ofBytes (ByteArray.extract s (0 : Nat) ((0 : Nat) + (Int.toNat (IntKind.wrap IntKind.i64 ((↑(ByteArray.size s) : Int) - (2 : Int))) - (0 :
  Nat)))))) (256 : Int))) :: List.set (List.replicate (nat_lit 1) (0 : Int)) (nat_lit 0) (IntKind.wrap IntKind.u8 (Int.tmod (sumI (65535 : Int) (ofBytes (ByteArray.extract s (0 : Nat) ((0 : Nat) + (Int.toNat (IntKind.wrap
  IntKind.i64 ((↑(ByteArray.size s) : Int) - (2 : Int))) - (0 : Nat)))))) (256 : Int)))) (0 : Nat) (2 : Nat)))), Prod.fst (Prod.snd (readV (ByteArray.extract s (0 : Nat) ((0 : Nat) + (Int.toNat (IntKind.wrap IntKind.i64
  ((↑(ByteArray.size s) : Int) - (2 : Int))) - (0 : Nat))) ++ bytesOf (seg (IntKind.wrap IntKind.u8 (IntKind.wrap IntKind.i64 (Int.tdiv (sumI (65535 : Int) (ofBytes (ByteArray.extract s (0 : Nat) ((0 : Nat) + (Int.toNat
  (IntKind.wrap IntKind.i64 ((↑(ByteArray.size s) : Int) - (2 : Int))) - (0 : Nat)))))) (256 : Int))) :: List.set (List.replicate (nat_lit 1) (0 : Int)) (nat_lit 0) (IntKind.wrap IntKind.u8 (Int.tmod (sumI (65535 : Int)
  (ofBytes (ByteArray.extract s (0 : Nat) ((0 : Nat) + (Int.toNat (IntKind.wrap IntKind.i64 ((↑(ByteArray.size s) : Int) - (2 : Int))) - (0 : Nat)))))) (256 : Int)))) (0 : Nat) (2 : Nat))))), Prod.snd (Prod.snd (readV
  (ByteArray.extract s (0 : Nat) ((0 : Nat) + (Int.toNat (IntKind.wrap IntKind.i64 ((↑(ByteArray.size s) : Int) - (2 : Int))) - (0 : Nat))) ++ bytesOf (seg (IntKind.wrap IntKind.u8 (IntKind.wrap IntKind.i64 (Int.tdiv (sumI
  (65535 : Int) (ofBytes (ByteArray.extract s (0 : Nat) ((0 : Nat) + (Int.toNat (IntKind.wrap IntKind.i64 ((↑(ByteArray.size s) : Int) - (2 : Int))) - (0 : Nat)))))) (256 : Int))) :: List.set (List.replicate (nat_lit 1) (0
  : Int)) (nat_lit 0) (IntKind.wrap IntKind.u8 (Int.tmod (sumI (65535 : Int) (ofBytes (ByteArray.extract s (0 : Nat) ((0 : Nat) + (Int.toNat (IntKind.wrap IntKind.i64 ((↑(ByteArray.size s) : Int) - (2 : Int))) - (0 :
  Nat)))))) (256 : Int)))) (0 : Nat) (2 : Nat)))))) ((0 : Int), List.replicate (8 : Nat) (0 : Int), List.replicate (8 : Nat) (List.replicate (4 : Nat) (0 : Int))) else false) = true else ∀ (b : Bool), decide (layE (Prod.fst
  (readV (ByteArray.extract s (0 : Nat) ((0 : Nat) + (Int.toNat (IntKind.wrap IntKind.i64 ((↑(ByteArray.size s) : Int) - (2 : Int))) - (0 : Nat))) ++ bytesOf (seg (IntKind.wrap IntKind.u8 (IntKind.wrap IntKind.i64 (Int.tdiv
  (sumI (65535 : Int) (ofBytes (ByteArray.extract s (0 : Nat) ((0 : Nat) + (Int.toNat (IntKind.wrap IntKind.i64 ((↑(ByteArray.size s) : Int) - (2 : Int))) - (0 : Nat)))))) (256 : Int))) :: List.set (List.replicate (nat_lit
  1) (0 : Int)) (nat_lit 0) (IntKind.wrap IntKind.u8 (Int.tmod (sumI (65535 : Int) (ofBytes (ByteArray.extract s (0 : Nat) ((0 : Nat) + (Int.toNat (IntKind.wrap IntKind.i64 ((↑(ByteArray.size s) : Int) - (2 : Int))) - (0 :
  Nat)))))) (256 : Int)))) (0 : Nat) (2 : Nat))))) (Prod.fst (Prod.snd (readV (ByteArray.extract s (0 : Nat) ((0 : Nat) + (Int.toNat (IntKind.wrap IntKind.i64 ((↑(ByteArray.size s) : Int) - (2 : Int))) - (0 : Nat))) ++
  bytesOf (seg (IntKind.wrap IntKind.u8 (IntKind.wrap IntKind.i64 (Int.tdiv (sumI (65535 : Int) (ofBytes (ByteArray.extract s (0 : Nat) ((0 : Nat) + (Int.toNat (IntKind.wrap IntKind.i64 ((↑(ByteArray.size s) : Int) - (2 :
  Int))) - (0 : Nat)))))) (256 : Int))) :: List.set (List.replicate (nat_lit 1) (0 : Int)) (nat_lit 0) (IntKind.wrap IntKind.u8 (Int.tmod (sumI (65535 : Int) (ofBytes (ByteArray.extract s (0 : Nat) ((0 : Nat) + (Int.toNat
  (IntKind.wrap IntKind.i64 ((↑(ByteArray.size s) : Int) - (2 : Int))) - (0 : Nat)))))) (256 : Int)))) (0 : Nat) (2 : Nat))))), Prod.snd (Prod.snd (readV (ByteArray.extract s (0 : Nat) ((0 : Nat) + (Int.toNat (IntKind.wrap
  IntKind.i64 ((↑(ByteArray.size s) : Int) - (2 : Int))) - (0 : Nat))) ++ bytesOf (seg (IntKind.wrap IntKind.u8 (IntKind.wrap IntKind.i64 (Int.tdiv (sumI (65535 : Int) (ofBytes (ByteArray.extract s (0 : Nat) ((0 : Nat) +
  (Int.toNat (IntKind.wrap IntKind.i64 ((↑(ByteArray.size s) : Int) - (2 : Int))) - (0 : Nat)))))) (256 : Int))) :: List.set (List.replicate (nat_lit 1) (0 : Int)) (nat_lit 0) (IntKind.wrap IntKind.u8 (Int.tmod (sumI (65535
  : Int) (ofBytes (ByteArray.extract s (0 : Nat) ((0 : Nat) + (Int.toNat (IntKind.wrap IntKind.i64 ((↑(ByteArray.size s) : Int) - (2 : Int))) - (0 : Nat)))))) (256 : Int)))) (0 : Nat) (2 : Nat)))))) (↑(ByteArray.size
  (ByteArray.extract s (0 : Nat) ((0 : Nat) + (Int.toNat (IntKind.wrap IntKind.i64 ((↑(ByteArray.size s) : Int) - (2 : Int))) - (0 : Nat))) ++ bytesOf (seg (IntKind.wrap IntKind.u8 (IntKind.wrap IntKind.i64 (Int.tdiv (sumI
  (65535 : Int) (ofBytes (ByteArray.extract s (0 : Nat) ((0 : Nat) + (Int.toNat (IntKind.wrap IntKind.i64 ((↑(ByteArray.size s) : Int) - (2 : Int))) - (0 : Nat)))))) (256 : Int))) :: List.set (List.replicate (nat_lit 1) (0
  : Int)) (nat_lit 0) (IntKind.wrap IntKind.u8 (Int.tmod (sumI (65535 : Int) (ofBytes (ByteArray.extract s (0 : Nat) ((0 : Nat) + (Int.toNat (IntKind.wrap IntKind.i64 ((↑(ByteArray.size s) : Int) - (2 : Int))) - (0 :
  Nat)))))) (256 : Int)))) (0 : Nat) (2 : Nat)))) : Int) = (0 : Int)) = b → ∀ (b_1 : Bool), (bif b then decide (layV (Prod.fst (readV (ByteArray.extract s (0 : Nat) ((0 : Nat) + (Int.toNat (IntKind.wrap IntKind.i64
  ((↑(ByteArray.size s) : Int) - (2 : Int))) - (0 : Nat))) ++ bytesOf (seg (IntKind.wrap IntKind.u8 (IntKind.wrap IntKind.i64 (Int.tdiv (sumI (65535 : Int) (ofBytes (ByteArray.extract s (0 : Nat) ((0 : Nat) + (Int.toNat
  (IntKind.wrap IntKind.i64 ((↑(ByteArray.size s) : Int) - (2 : Int))) - (0 : Nat)))))) (256 : Int))) :: List.set (List.replicate (nat_lit 1) (0 : Int)) (nat_lit 0) (IntKind.wrap IntKind.u8 (Int.tmod (sumI (65535 : Int)
  (ofBytes (ByteArray.extract s (0 : Nat) ((0 : Nat) + (Int.toNat (IntKind.wrap IntKind.i64 ((↑(ByteArray.size s) : Int) - (2 : Int))) - (0 : Nat)))))) (256 : Int)))) (0 : Nat) (2 : Nat))))) (Prod.fst (Prod.snd (readV
  (ByteArray.extract s (0 : Nat) ((0 : Nat) + (Int.toNat (IntKind.wrap IntKind.i64 ((↑(ByteArray.size s) : Int) - (2 : Int))) - (0 : Nat))) ++ bytesOf (seg (IntKind.wrap IntKind.u8 (IntKind.wrap IntKind.i64 (Int.tdiv (sumI
  (65535 : Int) (ofBytes (ByteArray.extract s (0 : Nat) ((0 : Nat) + (Int.toNat (IntKind.wrap IntKind.i64 ((↑(ByteArray.size s) : Int) - (2 : Int))) - (0 : Nat)))))) (256 : Int))) :: List.set (List.replicate (nat_lit 1) (0
  : Int)) (nat_lit 0) (IntKind.wrap IntKind.u8 (Int.tmod (sumI (65535 : Int) (ofBytes (ByteArray.extract s (0 : Nat) ((0 : Nat) + (Int.toNat (IntKind.wrap IntKind.i64 ((↑(ByteArray.size s) : Int) - (2 : Int))) - (0 :
  Nat)))))) (256 : Int)))) (0 : Nat) (2 : Nat))))), Prod.snd (Prod.snd (readV (ByteArray.extract s (0 : Nat) ((0 : Nat) + (Int.toNat (IntKind.wrap IntKind.i64 ((↑(ByteArray.size s) : Int) - (2 : Int))) - (0 : Nat))) ++
  bytesOf (seg (IntKind.wrap IntKind.u8 (IntKind.wrap IntKind.i64 (Int.tdiv (sumI (65535 : Int) (ofBytes (ByteArray.extract s (0 : Nat) ((0 : Nat) + (Int.toNat (IntKind.wrap IntKind.i64 ((↑(ByteArray.size s) : Int) - (2 :
  Int))) - (0 : Nat)))))) (256 : Int))) :: List.set (List.replicate (nat_lit 1) (0 : Int)) (nat_lit 0) (IntKind.wrap IntKind.u8 (Int.tmod (sumI (65535 : Int) (ofBytes (ByteArray.extract s (0 : Nat) ((0 : Nat) + (Int.toNat
  (IntKind.wrap IntKind.i64 ((↑(ByteArray.size s) : Int) - (2 : Int))) - (0 : Nat)))))) (256 : Int)))) (0 : Nat) (2 : Nat)))))) (↑(ByteArray.size (ByteArray.extract s (0 : Nat) ((0 : Nat) + (Int.toNat (IntKind.wrap
  IntKind.i64 ((↑(ByteArray.size s) : Int) - (2 : Int))) - (0 : Nat))) ++ bytesOf (seg (IntKind.wrap IntKind.u8 (IntKind.wrap IntKind.i64 (Int.tdiv (sumI (65535 : Int) (ofBytes (ByteArray.extract s (0 : Nat) ((0 : Nat) +
  (Int.toNat (IntKind.wrap IntKind.i64 ((↑(ByteArray.size s) : Int) - (2 : Int))) - (0 : Nat)))))) (256 : Int))) :: List.set (List.replicate (nat_lit 1) (0 : Int)) (nat_lit 0) (IntKind.wrap IntKind.u8 (Int.tmod (sumI (65535
  : Int) (ofBytes (ByteArray.extract s (0 : Nat) ((0 : Nat) + (Int.toNat (IntKind.wrap IntKind.i64 ((↑(ByteArray.size s) : Int) - (2 : Int))) - (0 : Nat)))))) (256 : Int)))) (0 : Nat) (2 : Nat)))) : Int) = ByteArray.extract
  s (0 : Nat) ((0 : Nat) + (Int.toNat (IntKind.wrap IntKind.i64 ((↑(ByteArray.size s) : Int) - (2 : Int))) - (0 : Nat))) ++ bytesOf (seg (IntKind.wrap IntKind.u8 (IntKind.wrap IntKind.i64 (Int.tdiv (sumI (65535 : Int)
  (ofBytes (ByteArray.extract s (0 : Nat) ((0 : Nat) + (Int.toNat (IntKind.wrap IntKind.i64 ((↑(ByteArray.size s) : Int) - (2 : Int))) - (0 : Nat)))))) (256 : Int))) :: List.set (List.replicate (nat_lit 1) (0 : Int))
  (nat_lit 0) (IntKind.wrap IntKind.u8 (Int.tmod (sumI (65535 : Int) (ofBytes (ByteArray.extract s (0 : Nat) ((0 : Nat) + (Int.toNat (IntKind.wrap IntKind.i64 ((↑(ByteArray.size s) : Int) - (2 : Int))) - (0 : Nat)))))) (256
  : Int)))) (0 : Nat) (2 : Nat))) else false) = b_1 → ∀ (b_2 : Bool), (bif b_1 then decide (readE (ByteArray.extract s (0 : Nat) ((0 : Nat) + (Int.toNat (IntKind.wrap IntKind.i64 ((↑(ByteArray.size s) : Int) - (2 : Int))) -
  (0 : Nat))) ++ bytesOf (seg (IntKind.wrap IntKind.u8 (IntKind.wrap IntKind.i64 (Int.tdiv (sumI (65535 : Int) (ofBytes (ByteArray.extract s (0 : Nat) ((0 : Nat) + (Int.toNat (IntKind.wrap IntKind.i64 ((↑(ByteArray.size s)
  : Int) - (2 : Int))) - (0 : Nat)))))) (256 : Int))) :: List.set (List.replicate (nat_lit 1) (0 : Int)) (nat_lit 0) (IntKind.wrap IntKind.u8 (Int.tmod (sumI (65535 : Int) (ofBytes (ByteArray.extract s (0 : Nat) ((0 : Nat)
  + (Int.toNat (IntKind.wrap IntKind.i64 ((↑(ByteArray.size s) : Int) - (2 : Int))) - (0 : Nat)))))) (256 : Int)))) (0 : Nat) (2 : Nat))) = (0 : Int)) else false) = b_2 → ((b = true → b = true ∧ b = true) ∧ (b = true → b =
  true) ∧ (b_1 = true → b_1 = true) ∧ (b_2 = true → b_2 = true) ∧ (b_2 = true → b_2 = true ∧ b_2 = true) ∧ (b_2 = true → b_2 = true)) ∧ (bif b_2 then decide (Prod.fst (readV (ByteArray.extract s (0 : Nat) ((0 : Nat) +
  (Int.toNat (IntKind.wrap IntKind.i64 ((↑(ByteArray.size s) : Int) - (2 : Int))) - (0 : Nat))) ++ bytesOf (seg (IntKind.wrap IntKind.u8 (IntKind.wrap IntKind.i64 (Int.tdiv (sumI (65535 : Int) (ofBytes (ByteArray.extract s
  (0 : Nat) ((0 : Nat) + (Int.toNat (IntKind.wrap IntKind.i64 ((↑(ByteArray.size s) : Int) - (2 : Int))) - (0 : Nat)))))) (256 : Int))) :: List.set (List.replicate (nat_lit 1) (0 : Int)) (nat_lit 0) (IntKind.wrap IntKind.u8
  (Int.tmod (sumI (65535 : Int) (ofBytes (ByteArray.extract s (0 : Nat) ((0 : Nat) + (Int.toNat (IntKind.wrap IntKind.i64 ((↑(ByteArray.size s) : Int) - (2 : Int))) - (0 : Nat)))))) (256 : Int)))) (0 : Nat) (2 : Nat)))) =
  Prod.fst (readV (ByteArray.extract s (0 : Nat) ((0 : Nat) + (Int.toNat (IntKind.wrap IntKind.i64 ((↑(ByteArray.size s) : Int) - (2 : Int))) - (0 : Nat))) ++ bytesOf (seg (IntKind.wrap IntKind.u8 (IntKind.wrap IntKind.i64
  (Int.tdiv (sumI (65535 : Int) (ofBytes (ByteArray.extract s (0 : Nat) ((0 : Nat) + (Int.toNat (IntKind.wrap IntKind.i64 ((↑(ByteArray.size s) : Int) - (2 : Int))) - (0 : Nat)))))) (256 : Int))) :: List.set (List.replicate
  (nat_lit 1) (0 : Int)) (nat_lit 0) (IntKind.wrap IntKind.u8 (Int.tmod (sumI (65535 : Int) (ofBytes (ByteArray.extract s (0 : Nat) ((0 : Nat) + (Int.toNat (IntKind.wrap IntKind.i64 ((↑(ByteArray.size s) : Int) - (2 :
  Int))) - (0 : Nat)))))) (256 : Int)))) (0 : Nat) (2 : Nat))))) else false) = true else ∀ (b : Bool), decide ((↑(ByteArray.size s) : Int) < (12 : Int)) = b → (((!b) = true → (!b) = true) ∧ ((!b) = true → (!b) = true) ∧ (b
  = false → (!b) = true)) ∧ bif bif b then true else decide ((24 : Int) < (↑(ByteArray.size s) : Int)) then ∀ (b : Bool), decide (readE s = (1 : Int)) = b → ∀ (b_1 : Bool), (bif b then !decide (readE s = (0 : Int)) else
  false) = b_1 → ((b = true → b = true) ∧ (b = true → b = true) ∧ (b_1 = true → b_1 = true) ∧ (b_1 = true → b_1 = true)) ∧ (bif b_1 then decide (Prod.fst (readV s) = (0 : Int)) else false) = true else bif !decide (readE s =
  (0 : Int)) then ∀ (b : Bool), decide (readE s = (3 : Int)) = b → ∀ (b_1 : Bool), (bif b then !decide (readE s = (0 : Int)) else false) = b_1 → ∀ (b_2 : Bool), (bif b_1 then decide (Prod.fst (readV s) = (0 : Int)) else
  false) = b_2 → ((b = true → b = true) ∧ (b = true → b = true) ∧ (b_1 = true → b_1 = true) ∧ (b_1 = true → b_1 = true) ∧ (b_2 = true → b_2 = true ∧ b_2 = true) ∧ (b_2 = true → b_2 = true)) ∧ (bif b_2 then Ty.eqb (Ty.cons
  (Ty.int IntKind.i64) (Ty.last (Ty.cons (Ty.arr (8 : Nat) (Ty.int IntKind.i64)) (Ty.last (Ty.arr (8 : Nat) (Ty.arr (4 : Nat) (Ty.int IntKind.i64))))))) (Prod.fst (readV s), Prod.fst (Prod.snd (readV s)), Prod.snd (Prod.snd
  (readV s))) ((0 : Int), List.replicate (8 : Nat) (0 : Int), List.replicate (8 : Nat) (List.replicate (4 : Nat) (0 : Int))) else false) = true else ∀ (b : Bool), decide (layE (Prod.fst (readV s)) (Prod.fst (Prod.snd (readV
  s)), Prod.snd (Prod.snd (readV s))) (↑(ByteArray.size s) : Int) = (0 : Int)) = b → ∀ (b_1 : Bool), (bif b then decide (layV (Prod.fst (readV s)) (Prod.fst (Prod.snd (readV s)), Prod.snd (Prod.snd (readV s)))
  (↑(ByteArray.size s) : Int) = s) else false) = b_1 → ∀ (b_2 : Bool), (bif b_1 then decide (readE s = (0 : Int)) else false) = b_2 → ((b = true → b = true ∧ b = true) ∧ (b = true → b = true) ∧ (b_1 = true → b_1 = true) ∧
  (b_2 = true → b_2 = true) ∧ (b_2 = true → b_2 = true ∧ b_2 = true) ∧ (b_2 = true → b_2 = true)) ∧ (bif b_2 then decide (Prod.fst (readV s) = Prod.fst (readV s)) else false) = true
theorem vcq7 (s : ByteArray) : Pq7 s = vcFun Cq7 (annq7 s) Go.Proofs.Try.f7 [⟨.str, s⟩] [] (outq7 s) := by kernel_rfl

end Go.SL.A

/- Statements about packets: the code as plain conditions holds. -/
namespace Go.SL.A
open Go Go.SL Go.SL.S
set_option maxRecDepth 100000

theorem pureq3 (f : Int) (s : List Int × List (List Int)) (n : Int) (hl : s.1.length = 8 ∧ s.2.length = 8 ∧ ∀ y ∈ s.2, y.length = 4) : Pq3 f s n := by
  obtain ⟨S, Y⟩ := s
  unfold Pq3
  dsimp only
  have hV : layE f (S, Y) n ≠ 0 → layV f (S, Y) n = ByteArray.empty := fun h => by unfold layV; rw [if_neg h]
  have hB : giveB n = 0 ↔ (n < 12 ∨ 24 < n) := by
    have := giveB_ne (n := n)
    constructor
    · intro h
      by_cases c : n < 12 ∨ 24 < n
      · exact c
      · exact absurd h (this.2 (by omega))
    · intro h; unfold giveB; rw [if_pos (by omega)]
  rw [show (packR (S, Y) n == packR (S, Y) n) = true from beq_self_eq_true _, Bool.not_true, cond_false]
  have e1 : (n < 12 ∨ 24 < n) → layE f (S, Y) n = 1 := fun h => by unfold layE; rw [if_pos (hB.2 h)]
  have fin : ∀ k : Int, k ≠ 0 → layE f (S, Y) n = k → ∀ b : Bool, decide (layE f (S, Y) n = k) = b → ((b = true → b = true) ∧ (b = true → b = true)) ∧ (bif b then decide (layV f (S, Y) n = ByteArray.empty) else false) = true := fun k hk h b hb => by
    subst hb
    rw [decide_eq_true h, cond_true]
    exact ⟨⟨id, id⟩, decide_eq_true (hV (by rw [h]; exact hk))⟩
  rintro b rfl
  by_cases c1 : n < 12 ∨ 24 < n
  · have e : (bif decide (n < 12) then true else decide (24 < n)) = true := by
      rcases c1 with c | c
      · rw [decide_eq_true c]; rfl
      · by_cases c' : n < 12
        · rw [decide_eq_true c']; rfl
        · rw [decide_eq_false c', decide_eq_true c]; rfl
    rw [e, cond_true]
    exact ⟨⟨id, fun h => by rw [h]; rfl⟩, fin 1 (by decide) (e1 c1)⟩
  · rw [decide_eq_false (show ¬ n < 12 by omega), decide_eq_false (show ¬ 24 < n by omega), cond_false, cond_false]
    refine ⟨⟨id, fun _ => rfl⟩, ?_⟩
    have hb0 : giveB n ≠ 0 := fun h => c1 (hB.1 h)
    rintro b rfl
    by_cases c2 : f < 0 ∨ 65535 < f
    · have e : (bif decide (f < 0) then true else decide (65535 < f)) = true := by
        rcases c2 with c | c
        · rw [decide_eq_true c]; rfl
        · by_cases c' : f < 0
          · rw [decide_eq_true c']; rfl
          · rw [decide_eq_false c', decide_eq_true c]; rfl
      rw [e, cond_true]
      exact ⟨⟨id, fun h => by rw [h]; rfl⟩, fin 7 (by decide) (by unfold layE; rw [if_neg hb0, if_pos c2])⟩
    · rw [decide_eq_false (show ¬ f < 0 by omega), decide_eq_false (show ¬ 65535 < f by omega), cond_false, cond_false]
      refine ⟨⟨id, fun _ => rfl⟩, ?_⟩
      cases hR : packR (S, Y) n with
      | false =>
        rw [Bool.not_false, cond_true]
        exact fin 3 (by decide) (by unfold layE; rw [if_neg hb0, if_neg c2, hR]; rfl)
      | true =>
        have h0 : layE f (S, Y) n = 0 := by unfold layE; rw [if_neg hb0, if_neg c2, hR]; rfl
        rw [Bool.not_true, cond_false, decide_eq_true h0, cond_true]
        refine ⟨⟨⟨by omega, by omega⟩, rfl⟩, decide_eq_true ?_⟩
        unfold layV; rw [if_pos h0]
/-- The shapes of the statements are right, and of the right lengths. -/
structure ShOK (s : SHQ) (n : Int) : Prop where
  rt : RtP s n
  l1 : s.1.length = 8
  l8 : s.2.length = 8
  l4 : ∀ y ∈ s.2, y.length = 4
theorem shape_ok {side l : List Int} {n : Int} (hs : side.length = 8) (hx : ∀ x ∈ l, 0 ≤ x ∧ x ≤ 4294967295) (hn : 12 ≤ n ∧ n ≤ 24) : ShOK (shape19 side l n) n := by
  have hk := fun b hb => giveK side hn b hb
  have ho := fun b (hb : b < 8) => shRow_ok (hk b hb) (l_fit hx b).1
  have hr := held8_right side
  have hg : giveV (held8 side) (giveB n) = refF (held8 side) (8 * n - 64) := by
    have hB := giveB_eq hn
    have he : giveE (held8 side) (8 * n - 64) = 0 := by unfold giveE; rw [if_neg (by rw [hr]; simp; omega)]
    rw [hB]
    unfold giveV
    rw [if_pos he]
    exact give_eq _ (by omega)
  refine ⟨⟨hn, hr, fun b hb => ?_⟩, held8_len hs, rows_len _ l, fun y hy => ?_⟩
  · show pulsesF ((shRows (refF (held8 side) (8 * n - 64)) l).getD b _) = (giveV (held8 side) (giveB n)).getD b 0
    rw [hg, List.getD_eq_getElem?_getD, rows_at _ l hb, Option.getD_some]
    obtain ⟨o1, o2⟩ := ho b hb
    have hk := hk b hb
    unfold pulsesF; rw [if_neg (by omega), o2]; omega
  · obtain ⟨b, hb, rfl⟩ := List.mem_map.1 hy
    exact (ho b (List.mem_range.1 hb)).1
theorem lay_ok {s : SHQ} {n f : Int} (h : ShOK s n) (hf : 0 ≤ f ∧ f ≤ 65535) : layE f s n = 0 ∧ layV f s n = bytesOf (layS f s n) := by
  have h0 : layE f s n = 0 := by
    unfold layE
    rw [if_neg (giveB_ne.2 h.rt.sz), if_neg (by omega), if_pos (packR_iff.2 h.rt)]
  exact ⟨h0, by unfold layV; rw [if_pos h0]⟩
theorem layS_byt {s : SHQ} {n f : Int} (h : ShOK s n) : Byt (layS f s n) := by
  have hn := h.rt.sz
  obtain ⟨-, -, hk3⟩ := give_fit h.rt.rt hn
  have hl : ((layB f s).length : Int) ≤ 8 * (n - 2) := by rw [layB_all h.rt h.l1 h.l8]; exact hk3
  have hb : Byt (bodyS f s n) := by rw [body_eq hn.1 hl]; exact packB_byt (bit_app (layB_bit f s) (bit_zero _))
  have hc := crcS_fit (xs := bodyS f s n) (r := 65535) (by omega)
  intro x hx
  unfold layS sealS at hx
  rcases List.mem_append.1 hx with hx | hx
  · exact hb x hx
  · rcases List.mem_cons.1 hx with rfl | hx
    · omega
    · rw [List.mem_singleton] at hx; subst hx; omega
theorem size_fitb {n : Int} (h : 0 ≤ n ∧ n ≤ 255) : IntKind.i64.wrap (12 + Int.tmod (IntKind.i64.wrap n) 13) = 12 + Int.tmod n 13 ∧ 12 ≤ 12 + Int.tmod n 13 ∧ 12 + Int.tmod n 13 ≤ 24 := by
  have ⟨_, _, h2, h3, _⟩ := tdm n (k := 13) (by omega)
  have h3 := (h3 h.1).1
  rw [w64 (n := n) (by omega) (by omega), w64 (by omega) (by omega)]
  omega
theorem hwq4 {f g n : Int} {side more l m : List Int} (hw : Go.SL.allP (List.flatMap (fun a : AV => a.t.wf a.x) [⟨.int .u16, f⟩, ⟨.int .u16, g⟩, ⟨.arr 8 (.int .i64), side⟩, ⟨.arr 8 (.int .i64), more⟩, ⟨.arr 8 (.int .u32), l⟩, ⟨.arr 8 (.int .u32), m⟩, ⟨.int .u8, n⟩] ++ List.flatMap Blk.wf [])) :
    (0 ≤ f ∧ f ≤ 65535) ∧ (0 ≤ g ∧ g ≤ 65535) ∧ side.length = 8 ∧ more.length = 8 ∧ (∀ x ∈ l, 0 ≤ x ∧ x ≤ 4294967295) ∧ (∀ x ∈ m, 0 ≤ x ∧ x ≤ 4294967295) ∧ 0 ≤ n ∧ n ≤ 255 := by
  simp only [List.flatMap_cons, List.flatMap_nil, Ty.wf, List.append_nil, List.cons_append, List.nil_append, Go.SL.allP] at hw
  obtain ⟨a1, a2, b1, b2, s1, -, t1, -, -, l2, -, m2, n1, n2⟩ := hw
  have e1 : IntKind.u32.min = 0 := by decide
  have e2 : IntKind.u32.max = 4294967295 := by decide
  have e3 : IntKind.u8.min = 0 := by decide
  have e4 : IntKind.u8.max = 255 := by decide
  have e5 : IntKind.u16.min = 0 := by decide
  have e6 : IntKind.u16.max = 65535 := by decide
  rw [e5] at a1 b1; rw [e6] at a2 b2; rw [e3] at n1; rw [e4] at n2
  exact ⟨⟨a1, a2⟩, ⟨b1, b2⟩, s1, t1, (fun x hx => by have := l2 x hx; rw [e1, e2] at this; exact this), (fun x hx => by have := m2 x hx; rw [e1, e2] at this; exact this), n1, n2⟩
theorem eqbP (x y : Int × List Int × List (List Int)) (h : x = y) : Ty.eqb (.cons (.int .i64) (.last (.cons (.arr 8 (.int .i64)) (.last (.arr 8 (.arr 4 (.int .i64))))))) x y = true := by
  subst h; simp [Ty.eqb]
theorem eqbN (x y : Int × List Int × List (List Int)) (h1 : x.2.1.length = 8) (h2 : y.2.1.length = 8) (h3 : x.2.2.length = 8) (h4 : y.2.2.length = 8) (h5 : ∀ r ∈ x.2.2, r.length = 4) (h6 : ∀ r ∈ y.2.2, r.length = 4)
    (h : Ty.eqb (.cons (.int .i64) (.last (.cons (.arr 8 (.int .i64)) (.last (.arr 8 (.arr 4 (.int .i64))))))) x y = true) : x = y := by
  simp [Ty.eqb] at h
  obtain ⟨a, b, c⟩ := h
  have e1 : x.2.1 = y.2.1 := List.ext_getElem (by omega) fun i hi hi' => by
    have := b i (by omega)
    rw [List.getElem?_eq_getElem hi, List.getElem?_eq_getElem hi'] at this
    exact this
  have e2 : x.2.2 = y.2.2 := List.ext_getElem (by omega) fun i hi hi' => by
    have k1 := h5 _ (List.getElem_mem hi)
    have k2 := h6 _ (List.getElem_mem hi')
    refine List.ext_getElem (by omega) fun j hj hj' => ?_
    have := c i (by omega) j (by omega)
    rw [List.getElem?_eq_getElem hi, List.getElem?_eq_getElem hi'] at this
    simp only [Option.getD_some] at this
    rw [List.getElem?_eq_getElem hj, List.getElem?_eq_getElem hj'] at this
    exact this
  exact Prod.ext a (Prod.ext e1 e2)
theorem pureq4 (f g : Int) (side more l m : List Int) (n : Int) (hw : (0 ≤ f ∧ f ≤ 65535) ∧ (0 ≤ g ∧ g ≤ 65535) ∧ side.length = 8 ∧ more.length = 8 ∧ (∀ x ∈ l, 0 ≤ x ∧ x ≤ 4294967295) ∧ (∀ x ∈ m, 0 ≤ x ∧ x ≤ 4294967295) ∧ 0 ≤ n ∧ n ≤ 255) : Pq4 f g side more l m n := by
  obtain ⟨hf, hg, hs, hm, hl, hml, hn⟩ := hw
  obtain ⟨e1, n1, n2⟩ := size_fitb hn
  unfold Pq4
  rw [e1, w64 (n := f) (by omega) (by omega), w64 (n := g) (by omega) (by omega)]
  generalize 12 + Int.tmod n 13 = c at *
  have A := shape_ok hs hl ⟨n1, n2⟩
  have B := shape_ok hm hml ⟨n1, n2⟩
  generalize shape19 side l c = s at *
  generalize shape19 more m c = t at *
  obtain ⟨a0, aV⟩ := lay_ok A hf
  obtain ⟨b0, bV⟩ := lay_ok B hg
  refine ⟨by decide, ⟨n1, n2⟩, ⟨n1, n2⟩, ?_⟩
  rintro b rfl b1 rfl
  rw [decide_eq_true (show layE f (s.1, s.2) c = 0 from a0), cond_true, decide_eq_true (show layE g (t.1, t.2) c = 0 from b0), cond_true]
  refine ⟨by simp, ?_⟩
  rw [show layV f (s.1, s.2) c = bytesOf (layS f s c) from aV, show layV g (t.1, t.2) c = bytesOf (layS g t c) from bV]
  by_cases h : layS f s c = layS g t c
  · obtain ⟨k1, k2⟩ := lay_inj A.rt A.l1 A.l8 A.l4 hf B.rt B.l1 B.l8 B.l4 hg h
    subst k1; subst k2
    rw [eqbP _ _ rfl, decide_eq_true rfl]; rfl
  · rw [decide_eq_false (fun e => h (bytes_inj (layS_byt A) (layS_byt B) e))]
    cases hq : Ty.eqb (.cons (.int .i64) (.last (.cons (.arr 8 (.int .i64)) (.last (.arr 8 (.arr 4 (.int .i64))))))) (f, s.1, s.2) (g, t.1, t.2) with
    | false => rfl
    | true =>
      have := eqbN (f, s.1, s.2) (g, t.1, t.2) A.l1 B.l1 A.l8 B.l8 A.l4 B.l4 hq
      have k1 : f = g := congrArg Prod.fst this
      have k2 : s = t := congrArg Prod.snd this
      exact absurd (by rw [k1, k2]) h
theorem hwq5 {f n : Int} {side l m : List Int} (hw : Go.SL.allP (List.flatMap (fun a : AV => a.t.wf a.x) [⟨.int .u16, f⟩, ⟨.arr 8 (.int .i64), side⟩, ⟨.arr 8 (.int .u32), l⟩, ⟨.arr 8 (.int .u32), m⟩, ⟨.int .u8, n⟩] ++ List.flatMap Blk.wf [])) :
    (0 ≤ f ∧ f ≤ 65535) ∧ side.length = 8 ∧ (∀ x ∈ l, 0 ≤ x ∧ x ≤ 4294967295) ∧ (∀ x ∈ m, 0 ≤ x ∧ x ≤ 4294967295) ∧ 0 ≤ n ∧ n ≤ 255 := by
  simp only [List.flatMap_cons, List.flatMap_nil, Ty.wf, List.append_nil, List.cons_append, List.nil_append, Go.SL.allP] at hw
  obtain ⟨a1, a2, s1, -, -, l2, -, m2, n1, n2⟩ := hw
  have e1 : IntKind.u32.min = 0 := by decide
  have e2 : IntKind.u32.max = 4294967295 := by decide
  have e3 : IntKind.u8.min = 0 := by decide
  have e4 : IntKind.u8.max = 255 := by decide
  have e5 : IntKind.u16.min = 0 := by decide
  have e6 : IntKind.u16.max = 65535 := by decide
  rw [e5] at a1; rw [e6] at a2; rw [e3] at n1; rw [e4] at n2
  exact ⟨⟨a1, a2⟩, s1, (fun x hx => by have := l2 x hx; rw [e1, e2] at this; exact this), (fun x hx => by have := m2 x hx; rw [e1, e2] at this; exact this), n1, n2⟩
theorem ext_bytes {xs : List Int} (h : Byt xs) (n : Nat) : ByteArray.extract (bytesOf xs) 0 n = bytesOf (xs.take n) := by
  have := ofBytes_ext (bytesOf xs) 0 n
  rw [ofBytes_bytes h, List.drop_zero] at this
  rw [← this, bytes_ofBytes]
theorem at_bytes {xs : List Int} (h : Byt xs) (i : Nat) : byteAt (bytesOf xs) i = xs.getD i 0 := by rw [byte_get, ofBytes_bytes h]
theorem held_get {side : List Int} (hs : side.length = 8) {i : Nat} (hi : i < 8) : (held8 side).getD i 0 = iand .i64 (side.getD i 0) 15 := by
  unfold held8
  rw [List.getD_eq_getElem?_getD, List.getElem?_map, List.getElem?_eq_getElem (by omega), List.getD_eq_getElem?_getD, List.getElem?_eq_getElem (by omega)]; rfl
theorem w_two {p q : Int} (hp : 0 ≤ p ∧ p ≤ 15) (_hq : 0 ≤ q ∧ q ≤ 15) : decide (IntKind.i64.wrap (16 * p + q) = IntKind.i64.wrap (IntKind.i64.wrap (p * 16) + q)) = true := by
  refine decide_eq_true ?_
  rw [w64 (n := p * 16) (by omega) (by omega), show 16 * p + q = p * 16 + q by omega]
theorem pureq5 (f : Int) (side l m : List Int) (n : Int) (hw : (0 ≤ f ∧ f ≤ 65535) ∧ side.length = 8 ∧ (∀ x ∈ l, 0 ≤ x ∧ x ≤ 4294967295) ∧ (∀ x ∈ m, 0 ≤ x ∧ x ≤ 4294967295) ∧ 0 ≤ n ∧ n ≤ 255) : Pq5 f side l m n := by
  obtain ⟨hf, hs, hl, hml, hn⟩ := hw
  obtain ⟨e1, n1, n2⟩ := size_fitb hn
  unfold Pq5
  rw [e1, w64 (n := f) (by omega) (by omega)]
  generalize 12 + Int.tmod n 13 = c at *
  have A := shape_ok hs hl ⟨n1, n2⟩
  have B := shape_ok hs hml ⟨n1, n2⟩
  have sA : (shape19 side l c).1 = held8 side := rfl
  have sB : (shape19 side m c).1 = held8 side := rfl
  generalize shape19 side l c = s at *
  generalize shape19 side m c = t at *
  obtain ⟨a0, aV⟩ := lay_ok A hf
  obtain ⟨b0, bV⟩ := lay_ok B hf
  have hA := layS_byt A (f := f)
  have hB := layS_byt B (f := f)
  have tA := lay_head (f := f) A.rt A.l1 A.l8
  have tB := lay_head (f := f) B.rt B.l1 B.l8
  rw [sA] at tA
  rw [sB] at tB
  have lA := (read_lay A.rt A.l1 A.l8 A.l4 hf).1
  have lB := (read_lay B.rt B.l1 B.l8 B.l4 hf).1
  have h48 : (bitsN f 16 ++ sideB (held8 side)).length = 48 := by rw [List.length_append, bitsN_len, sideB_len, held8_len hs]
  have gA : ∀ i, i < 6 → (layS f s c).getD i 0 = byteB (bitsN f 16 ++ sideB (held8 side)) i := fun i hi => by
    rw [← getD_take' (n := 6) hi, tA, packB_getD _ (by omega)]
  have b16 := bits16 hf (sideB (held8 side))
  refine ⟨by decide, ⟨n1, n2⟩, ⟨n1, n2⟩, ?_⟩
  rw [show layV f (s.1, s.2) c = bytesOf (layS f s c) from aV, show layV f (t.1, t.2) c = bytesOf (layS f t c) from bV]
  rw [decide_eq_true (show layE f (s.1, s.2) c = 0 from a0), decide_eq_true (show layE f (t.1, t.2) c = 0 from b0), ext_bytes hA, ext_bytes hB, tA, tB, decide_eq_true rfl]
  clear aV bV tA tB hB
  generalize layS f s c = xs at gA hA lA ⊢
  rintro b rfl b1 rfl b2 rfl
  simp only [Bool.not_true, cond_false, bytes_size, at_bytes hA, gA 0 (by omega), gA 1 (by omega), b16.1, b16.2]
  refine ⟨by simp; omega, ?_⟩
  have ef : IntKind.i64.wrap (IntKind.i64.wrap (IntKind.i64.wrap (f / 256) * 256) + IntKind.i64.wrap (f % 256)) = f := by
    rw [w64 (n := f / 256) (by omega) (by omega), w64 (n := f / 256 * 256) (by omega) (by omega), w64 (n := f % 256) (by omega) (by omega), w64 (by omega) (by omega)]; omega
  rw [ef, decide_eq_true rfl, Bool.not_true, cond_false]
  refine ⟨0, ⟨by simp, by omega⟩, fun i hi => ?_⟩
  rintro -
  by_cases h : (i : Int) < 4
  · rw [decide_eq_true h, cond_true]
    have w1 : IntKind.i64.wrap (2 + (i : Int)) = ((2 + i : Nat) : Int) := by rw [w64 (by omega) (by omega)]; omega
    have w2 : IntKind.i64.wrap (2 * (i : Int)) = ((2 * i : Nat) : Int) := by rw [w64 (by omega) (by omega)]; omega
    have w3 : IntKind.i64.wrap (((2 * i : Nat) : Int) + 1) = ((2 * i + 1 : Nat) : Int) := by rw [w64 (by omega) (by omega)]; omega
    have r1 := right_at (held8_right side) (2 * i)
    have r2 := right_at (held8_right side) (2 * i + 1)
    have eq : decide (IntKind.i64.wrap (xs.getD (IntKind.i64.wrap (2 + (i : Int))).toNat 0) = IntKind.i64.wrap (IntKind.i64.wrap (iand .i64 (side.getD (IntKind.i64.wrap (2 * (i : Int))).toNat 0) 15 * 16) + iand .i64 (side.getD (IntKind.i64.wrap (IntKind.i64.wrap (2 * (i : Int)) + 1)).toNat 0) 15)) = true := by
      rw [w1, w2, w3, Int.toNat_natCast, Int.toNat_natCast, Int.toNat_natCast, gA (2 + i) (by omega), side_byte (i := i) (held8_len hs) (held8_right side) (by omega), ← held_get hs (i := 2 * i) (by omega), ← held_get hs (i := 2 * i + 1) (by omega)]
      exact w_two r1 r2
    rw [eq, w1, w2, w3]
    simp only [Int.toNat_natCast]
    exact ⟨⟨⟨by omega, by omega⟩, ⟨by omega, by omega⟩, by omega, ⟨by omega, by omega⟩, by omega⟩, i + 1, ⟨trivial, trivial, step_i (i := i) (by omega), trivial, trivial⟩, by omega, by omega⟩
  · rw [decide_eq_false h, cond_false]
    trivial
end Go.SL.A

/- PackBack: a changed byte (parts of the proof). -/
namespace Go.SL.A
open Go Go.SL Go.SL.S
set_option maxRecDepth 100000

theorem ixor8 {x b : Int} (hx : 0 ≤ x ∧ x ≤ 255) (hb : 0 ≤ b ∧ b ≤ 255) : ixor .u8 x b = ((x.toNat ^^^ b.toNat : Nat) : Int) ∧ x.toNat ^^^ b.toNat < 256 := by
  obtain ⟨X, rfl⟩ : ∃ X : Nat, x = X := ⟨x.toNat, by omega⟩
  obtain ⟨B, rfl⟩ : ∃ B : Nat, b = B := ⟨b.toNat, by omega⟩
  rw [Int.toNat_natCast, Int.toNat_natCast]
  have h : X ^^^ B < 256 := Nat.xor_lt_two_pow (n := 8) (by omega) (by omega)
  refine ⟨?_, h⟩
  unfold ixor
  have e : (2 : Nat) ^ IntKind.u8.bits = 256 := by decide
  have h1 : (BitVec.ofInt IntKind.u8.bits (X : Int) ^^^ BitVec.ofInt IntKind.u8.bits (B : Int)).toNat = X ^^^ B := by
    rw [BitVec.toNat_xor, BitVec.ofInt_natCast, BitVec.ofInt_natCast, BitVec.toNat_ofNat, BitVec.toNat_ofNat]
    rw [e, Nat.mod_eq_of_lt (by omega), Nat.mod_eq_of_lt (by omega)]
  rw [h1]
  simp only [IntKind.wrap, IntKind.bits, IntKind.signed]
  simp <;> omega
theorem ixor8_zero {x : Int} (hx : 0 ≤ x ∧ x ≤ 255) : ixor .u8 x 0 = x := by
  rw [(ixor8 hx ⟨Int.le_refl 0, by omega⟩).1]
  simp; omega
theorem ixor8_ne {x b : Int} (hx : 0 ≤ x ∧ x ≤ 255) (hb : 0 ≤ b ∧ b ≤ 255) (h : b ≠ 0) : ixor .u8 x b ≠ x ∧ 0 ≤ ixor .u8 x b ∧ ixor .u8 x b ≤ 255 := by
  obtain ⟨e, hl⟩ := ixor8 hx hb
  rw [e]
  refine ⟨fun hc => ?_, by omega, by omega⟩
  have h2 : x.toNat ^^^ b.toNat = x.toNat := by omega
  have h3 := congrArg (x.toNat ^^^ ·) h2
  simp only [← Nat.xor_assoc, Nat.xor_self, Nat.zero_xor] at h3
  omega
/-- A packet of the statements with a byte changed. -/
theorem back_ok {s : SHQ} {c f : Int} (h : ShOK s c) (hf : 0 ≤ f ∧ f ≤ 65535) {i : Nat} (hi : i < (layS f s c).length) {b : Int} (hb : 0 ≤ b ∧ b ≤ 255) :
    (b = 0 → readS (List.set (layS f s c) i (ixor .u8 ((layS f s c).getD i 0) b)) = ((f, s), 0)) ∧ (b ≠ 0 → readS (List.set (layS f s c) i (ixor .u8 ((layS f s c).getD i 0) b)) = (zeroP, 4)) := by
  obtain ⟨hl, hr⟩ := read_lay h.rt h.l1 h.l8 h.l4 hf
  have hB := layS_byt h (f := f)
  have hn := h.rt.sz
  have hx := byt_at hB i
  have hs : sealS ((layS f s c).take ((layS f s c).length - 2)) = layS f s c := by
    unfold layS; rw [seal_take]
  generalize layS f s c = xs at *
  constructor
  · rintro rfl
    rw [ixor8_zero hx, List.getD_eq_getElem?_getD, List.getElem?_eq_getElem hi, Option.getD_some, List.set_getElem_self hi]
    exact hr
  · intro hne
    obtain ⟨k1, k2, k3⟩ := ixor8_ne hx hb hne
    exact lay_told hB (giveB_ne.2 (by omega)) hs hi ⟨k2, k3⟩ k1
end Go.SL.A

/- PackBack and PackOnly: the code as a plain condition holds. -/
namespace Go.SL.A
open Go Go.SL Go.SL.S
set_option maxRecDepth 100000

theorem hwq6 {f n a b : Int} {side l : List Int} (hw : Go.SL.allP (List.flatMap (fun a : AV => a.t.wf a.x) [⟨.int .u16, f⟩, ⟨.arr 8 (.int .i64), side⟩, ⟨.arr 8 (.int .u32), l⟩, ⟨.int .u8, n⟩, ⟨.int .u8, a⟩, ⟨.int .u8, b⟩] ++ List.flatMap Blk.wf [])) :
    (0 ≤ f ∧ f ≤ 65535) ∧ side.length = 8 ∧ (∀ x ∈ l, 0 ≤ x ∧ x ≤ 4294967295) ∧ (0 ≤ n ∧ n ≤ 255) ∧ (0 ≤ a ∧ a ≤ 255) ∧ 0 ≤ b ∧ b ≤ 255 := by
  simp only [List.flatMap_cons, List.flatMap_nil, Ty.wf, List.append_nil, List.cons_append, List.nil_append, Go.SL.allP] at hw
  obtain ⟨a1, a2, s1, -, -, l2, n1, n2, a3, a4, b1, b2⟩ := hw
  have e1 : IntKind.u32.min = 0 := by decide
  have e2 : IntKind.u32.max = 4294967295 := by decide
  have e3 : IntKind.u8.min = 0 := by decide
  have e4 : IntKind.u8.max = 255 := by decide
  have e5 : IntKind.u16.min = 0 := by decide
  have e6 : IntKind.u16.max = 65535 := by decide
  rw [e5] at a1; rw [e6] at a2; rw [e3] at n1 a3 b1; rw [e4] at n2 a4 b2
  exact ⟨⟨a1, a2⟩, s1, (fun x hx => by have := l2 x hx; rw [e1, e2] at this; exact this), ⟨n1, n2⟩, ⟨a3, a4⟩, b1, b2⟩
theorem seg_full {α : Type} (l : List α) : seg l 0 l.length = l := by simp [seg]
theorem zero_eqb : Ty.eqb (.cons (.int .i64) (.last (.cons (.arr 8 (.int .i64)) (.last (.arr 8 (.arr 4 (.int .i64))))))) (zeroP.1, zeroP.2.1, zeroP.2.2) ((0 : Int), List.replicate 8 (0 : Int), List.replicate 8 (List.replicate 4 (0 : Int))) = true := eqbP _ _ rfl
theorem byt_set' {xs : List Int} (h : Byt xs) (i : Nat) {v : Int} (hv : 0 ≤ v ∧ v ≤ 255) : Byt (List.set xs i v) := fun x hx => by
  rcases List.mem_or_eq_of_mem_set hx with h' | h'
  · exact h x h'
  · subst h'; exact hv
theorem pureq6 (f : Int) (side l : List Int) (n a b : Int) (hw : (0 ≤ f ∧ f ≤ 65535) ∧ side.length = 8 ∧ (∀ x ∈ l, 0 ≤ x ∧ x ≤ 4294967295) ∧ (0 ≤ n ∧ n ≤ 255) ∧ (0 ≤ a ∧ a ≤ 255) ∧ 0 ≤ b ∧ b ≤ 255) : Pq6 f side l n a b := by
  obtain ⟨hf, hs, hl, hn, ha, hb⟩ := hw
  obtain ⟨e1, n1, n2⟩ := size_fitb hn
  unfold Pq6
  rw [e1, w64 (n := f) (by omega) (by omega), w64 (n := a) (by omega) (by omega)]
  generalize 12 + Int.tmod n 13 = c at *
  have A := shape_ok hs hl ⟨n1, n2⟩
  generalize shape19 side l c = s at *
  obtain ⟨a0, aV⟩ := lay_ok A hf
  have hA := layS_byt A (f := f)
  obtain ⟨lA, rA⟩ := read_lay A.rt A.l1 A.l8 A.l4 hf
  have ⟨_, _, q2, q3, _⟩ := tdm a (k := c) (by omega)
  have q3 := (q3 ha.1).1
  have back := fun i hi => back_ok A hf (i := i) hi hb
  have hpr : packR (s.1, s.2) c = true := packR_iff.2 A.rt
  generalize Int.tmod a c = i at *
  rw [show layV f (s.1, s.2) c = bytesOf (layS f s c) from aV, show layE f (s.1, s.2) c = 0 from a0, hpr]
  have hrd : readS (layS f s c) = ((f, s), 0) := rA
  generalize layS f s c = xs at *
  have hrE : readE (bytesOf xs) = 0 := by unfold readE; rw [ofBytes_bytes hA, hrd]
  have hrV : readV (bytesOf xs) = (f, s) := by unfold readV; rw [ofBytes_bytes hA, hrd]
  have hi : i.toNat < xs.length := by omega
  have hx := byt_at hA i.toNat
  have h8 := ixor8 hx hb
  have hv : 0 ≤ ixor .u8 (xs.getD i.toNat 0) b ∧ ixor .u8 (xs.getD i.toNat 0) b ≤ 255 := by rw [h8.1]; omega
  obtain ⟨k1, k2⟩ := back i.toNat hi
  generalize hy : ixor .u8 (xs.getD i.toNat 0) b = v at *
  have hL : (List.set xs i.toNat v).length = xs.length := List.length_set
  have hC := byt_set' hA i.toNat hv
  have hsg : seg (List.set xs i.toNat v) 0 xs.length = List.set xs i.toNat v := by rw [← hL]; exact seg_full _
  rw [ofBytes_bytes hA, bytes_size, hrE, hrV, Nat.zero_add, hy, hsg]
  have hE : readE (bytesOf (List.set xs i.toNat v)) = (readS (List.set xs i.toNat v)).2 := by unfold readE; rw [ofBytes_bytes hC]
  have hV : readV (bytesOf (List.set xs i.toNat v)) = (readS (List.set xs i.toNat v)).1 := by unfold readV; rw [ofBytes_bytes hC]
  rw [hE, hV]
  refine ⟨by decide, ⟨n1, n2⟩, ?_⟩
  have hq : Ty.eqb (.cons (.int .i64) (.last (.cons (.arr 8 (.int .i64)) (.last (.arr 8 (.arr 4 (.int .i64))))))) (f, s.1, s.2) (f, s.1, s.2) = true := eqbP _ _ rfl
  rintro b1 rfl b2 rfl b3 rfl
  rw [hq, decide_eq_true (show ((xs.length : Nat) : Int) = c by omega), decide_eq_true (show (0 : Int) = 0 from rfl)]
  simp only [Bool.not_true, cond_false, decide_true]
  refine ⟨by simp, ⟨by omega, ⟨by omega, by omega⟩, hi, ⟨by omega, by omega⟩, hi⟩, by rw [hL]; omega, ?_⟩
  rintro b4 rfl b5 rfl b6 rfl b7 rfl b8 rfl b9 rfl
  by_cases hb0 : b = 0
  · rw [k1 hb0, decide_eq_true hb0]
    simp
  · rw [k2 hb0, decide_eq_false hb0, zero_eqb]
    simp
/-- What is asked of what was read. -/
def OnlyP (s : ByteArray) : Prop :=
  ∀ (b : Bool), decide ((↑(ByteArray.size s) : Int) < (12 : Int)) = b → (((!b) = true → (!b) = true) ∧ ((!b) = true → (!b) = true) ∧ (b = false → (!b) = true)) ∧ bif bif b then true else decide ((24 : Int) <
  (↑(ByteArray.size s) : Int)) then ∀ (b : Bool), decide (readE s = (1 : Int)) = b → ∀ (b_1 : Bool), (bif b then !decide (readE s = (0 : Int)) else false) = b_1 → ((b = true → b = true) ∧ (b = true → b = true) ∧ (b_1 = true
  → b_1 = true) ∧ (b_1 = true → b_1 = true)) ∧ (bif b_1 then decide (Prod.fst (readV s) = (0 : Int)) else false) = true else bif !decide (readE s = (0 : Int)) then ∀ (b : Bool), decide (readE s = (3 : Int)) = b → ∀ (b_1 :
  Bool), (bif b then !decide (readE s = (0 : Int)) else false) = b_1 → ∀ (b_2 : Bool), (bif b_1 then decide (Prod.fst (readV s) = (0 : Int)) else false) = b_2 → ((b = true → b = true) ∧ (b = true → b = true) ∧ (b_1 = true →
  b_1 = true) ∧ (b_1 = true → b_1 = true) ∧ (b_2 = true → b_2 = true ∧ b_2 = true) ∧ (b_2 = true → b_2 = true)) ∧ (bif b_2 then Ty.eqb (Ty.cons (Ty.int IntKind.i64) (Ty.last (Ty.cons (Ty.arr (8 : Nat) (Ty.int IntKind.i64))
  (Ty.last (Ty.arr (8 : Nat) (Ty.arr (4 : Nat) (Ty.int IntKind.i64))))))) (Prod.fst (readV s), Prod.fst (Prod.snd (readV s)), Prod.snd (Prod.snd (readV s))) ((0 : Int), List.replicate (8 : Nat) (0 : Int), List.replicate (8
  : Nat) (List.replicate (4 : Nat) (0 : Int))) else false) = true else ∀ (b : Bool), decide (layE (Prod.fst (readV s)) (Prod.fst (Prod.snd (readV s)), Prod.snd (Prod.snd (readV s))) (↑(ByteArray.size s) : Int) = (0 : Int))
  = b → ∀ (b_1 : Bool), (bif b then decide (layV (Prod.fst (readV s)) (Prod.fst (Prod.snd (readV s)), Prod.snd (Prod.snd (readV s))) (↑(ByteArray.size s) : Int) = s) else false) = b_1 → ∀ (b_2 : Bool), (bif b_1 then decide
  (readE s = (0 : Int)) else false) = b_2 → ((b = true → b = true ∧ b = true) ∧ (b = true → b = true) ∧ (b_1 = true → b_1 = true) ∧ (b_2 = true → b_2 = true) ∧ (b_2 = true → b_2 = true ∧ b_2 = true) ∧ (b_2 = true → b_2 =
  true)) ∧ (bif b_2 then decide (Prod.fst (readV s) = Prod.fst (readV s)) else false) = true
theorem only_p (s : ByteArray) (h : (12 : Int) ≤ (ByteArray.size s : Int) ∧ (ByteArray.size s : Int) ≤ 24 → sealS ((ofBytes s).take ((ofBytes s).length - 2)) = ofBytes s) : OnlyP s := by
  unfold OnlyP
  have hB := ofBytes_byt s
  have hl := ofBytes_len s
  by_cases c : (12 : Int) ≤ (ByteArray.size s : Int) ∧ (ByteArray.size s : Int) ≤ 24
  · have hs := h c
    have hd : ∃ p, readS (ofBytes s) = (p, 0) ∨ readS (ofBytes s) = (zeroP, 3) := by
      unfold readS
      rw [if_neg (giveB_ne.2 (by omega)), if_pos hs]
      unfold readU
      dsimp only
      split
      · exact ⟨_, Or.inl rfl⟩
      · exact ⟨zeroP, Or.inr rfl⟩
    rintro b rfl
    refine ⟨by simp, ?_⟩
    rw [decide_eq_false (show ¬ (ByteArray.size s : Int) < 12 by omega), decide_eq_false (show ¬ (24 : Int) < (ByteArray.size s : Int) by omega), cond_false, cond_false]
    obtain ⟨p, hp | hp⟩ := hd
    · have hE : readE s = 0 := by unfold readE; rw [hp]
      have hV : readV s = p := by unfold readV; rw [hp]
      obtain ⟨r1, r2, r3, r4, r5, r6⟩ := lay_read hB hp
      rw [hl] at r1 r6
      obtain ⟨k0, k1⟩ := lay_ok ⟨r1, r2, r3, r4⟩ r5
      rw [r6, bytes_ofBytes] at k1
      rw [hE, hV, decide_eq_true (show (0 : Int) = 0 from rfl), Bool.not_true, cond_false]
      rw [show layE p.1 (p.2.1, p.2.2) (ByteArray.size s : Int) = 0 from k0, show layV p.1 (p.2.1, p.2.2) (ByteArray.size s : Int) = s from k1]
      simp
    · have hE : readE s = 3 := by unfold readE; rw [hp]
      have hV : readV s = zeroP := by unfold readV; rw [hp]
      rw [hE, hV, zero_eqb, show zeroP.1 = 0 from rfl]
      simp
  · have hp : readS (ofBytes s) = (zeroP, 1) := by
      unfold readS
      rw [if_pos]
      by_cases g : giveB (ofBytes s).length = 0
      · exact g
      · exact absurd (giveB_ne.1 g) (by omega)
    have hE : readE s = 1 := by unfold readE; rw [hp]
    have hV : readV s = zeroP := by unfold readV; rw [hp]
    rw [hE, hV, show zeroP.1 = 0 from rfl]
    rintro b rfl
    refine ⟨by simp, ?_⟩
    have e : (bif decide ((ByteArray.size s : Int) < 12) then true else decide ((24 : Int) < (ByteArray.size s : Int))) = true := by
      by_cases c1 : (ByteArray.size s : Int) < 12
      · rw [decide_eq_true c1]; rfl
      · rw [decide_eq_false c1, decide_eq_true (show (24 : Int) < (ByteArray.size s : Int) by omega)]; rfl
    rw [e]
    simp
theorem bytes_app2 {l m : List Int} : bytesOf l ++ bytesOf m = bytesOf (l ++ m) := bytes_app _ _
theorem pureq7 (s : ByteArray) : Pq7 s := by
  unfold Pq7
  rintro b rfl
  refine ⟨by simp, ?_⟩
  rw [cond_false]
  by_cases c : (200 : Int) < (ByteArray.size s : Int)
  · rw [decide_eq_true c]; rfl
  rw [decide_eq_false c, cond_false]
  by_cases c2 : (ByteArray.size s : Int) < 2
  · rw [decide_eq_false (show ¬ (2 : Int) ≤ (ByteArray.size s : Int) by omega), cond_false]
    exact only_p s (fun h => by omega)
  rw [decide_eq_true (show (2 : Int) ≤ (ByteArray.size s : Int) by omega), cond_true, w64 (n := (ByteArray.size s : Int) - 2) (by omega) (by omega)]
  have hl := ofBytes_len s
  have hB := ofBytes_byt s
  have ex : ByteArray.extract s 0 (0 + (((ByteArray.size s : Int) - 2).toNat - 0)) = bytesOf ((ofBytes s).take (ByteArray.size s - 2)) := by
    rw [show 0 + (((ByteArray.size s : Int) - 2).toNat - 0) = ByteArray.size s - 2 by omega]
    have := ofBytes_ext s 0 (ByteArray.size s - 2)
    rw [List.drop_zero] at this
    rw [← this, bytes_ofBytes]
  have hBt : Byt ((ofBytes s).take (ByteArray.size s - 2)) := fun x hx => hB x (List.mem_of_mem_take hx)
  have hlt : ((ofBytes s).take (ByteArray.size s - 2)).length = ByteArray.size s - 2 := by rw [List.length_take]; omega
  rw [ex, ofBytes_bytes hBt, sum_div (by omega)]
  generalize (ofBytes s).take (ByteArray.size s - 2) = B at *
  have hc := crcS_fit (xs := B) (r := 65535) (by omega)
  have hs : bytesOf B ++ bytesOf (seg (IntKind.wrap IntKind.u8 (IntKind.wrap IntKind.i64 (Int.tdiv (crcS 65535 B) 256)) :: List.set (List.replicate (nat_lit 1) 0) (nat_lit 0) (IntKind.wrap IntKind.u8 (Int.tmod (crcS 65535 B) 256))) 0 2) = bytesOf (sealS B) := by
    have ⟨_, _, q2, q3, _⟩ := tdm (crcS 65535 B) (k := 256) (by omega)
    have q3 := (q3 hc.1).1
    have e1 : IntKind.wrap IntKind.u8 (IntKind.wrap IntKind.i64 (Int.tdiv (crcS 65535 B) 256)) = crcS 65535 B / 256 := by
      rw [w64 (by omega) (by omega)]
      simp only [IntKind.wrap, IntKind.bits, IntKind.signed]
      simp <;> omega
    have e2 : IntKind.wrap IntKind.u8 (Int.tmod (crcS 65535 B) 256) = crcS 65535 B % 256 := by
      simp only [IntKind.wrap, IntKind.bits, IntKind.signed]
      simp <;> omega
    rw [e1, e2, bytes_app2]
    rfl
  have hS : Byt (sealS B) := by
    intro x hx
    unfold sealS at hx
    rcases List.mem_append.1 hx with hx | hx
    · exact hBt x hx
    · rcases List.mem_cons.1 hx with rfl | hx
      · omega
      · rw [List.mem_singleton] at hx; subst hx; omega
  have hsz := bytes_size B
  rw [hs]
  refine ⟨⟨by omega, by omega, by omega, by rw [hsz]; omega⟩, ⟨by omega, by omega, by decide, by decide, by omega, ?_⟩, only_p _ (fun _ => by rw [ofBytes_bytes hS, seal_take])⟩
  rw [hsz, bytes_size]
  simp [seg]
  omega
end Go.SL.A

/- Functions do what they are held to do. -/
namespace Go.SL.A
open Go Go.SL Go.SL.S
theorem sndq5 : Sound Go.Proofs.Try.prog Gq5 := sndq8.add ⟨_, Go.Proofs.Try.func5, by kernel_rfl, by kernel_rfl⟩ (by
  intro args ins out h hp
  unfold spq5 at h
  split at h
  · rename_i f side l m n
    cases h
    exact vcFun_ok (C := Cq5) good sndq8 Meth.none mix Go.Proofs.Try.func5 (annq5 f side l m n) (fun hw => by rw [← vcq5 f side l m n]; exact pureq5 f side l m n (hwq5 hw))
  · cases h)

theorem sndq4 : Sound Go.Proofs.Try.prog Gq4 := sndq5.add ⟨_, Go.Proofs.Try.func4, by kernel_rfl, by kernel_rfl⟩ (by
  intro args ins out h hp
  unfold spq4 at h
  split at h
  · rename_i f g side more l m n
    cases h
    exact vcFun_ok (C := Cq4) good sndq5 Meth.none mix Go.Proofs.Try.func4 (annq4 f g side more l m n) (fun hw => by rw [← vcq4 f g side more l m n]; exact pureq4 f g side more l m n (hwq4 hw))
  · cases h)

theorem sndq3 : Sound Go.Proofs.Try.prog Gq3 := sndq4.add ⟨_, Go.Proofs.Try.func3, by kernel_rfl, by kernel_rfl⟩ (by
  intro args ins out h hp
  unfold spq3 at h
  split at h
  · rename_i f s n
    cases h
    exact vcFun_ok (C := Cq3) good sndq4 Meth.none mix Go.Proofs.Try.func3 (annq3 f s n) (fun hw => by rw [← vcq3 f s n]; exact pureq3 f s n (hwq12 hw))
  · cases h)

theorem sndq6 : Sound Go.Proofs.Try.prog Gq6 := sndq3.add ⟨_, Go.Proofs.Try.func6, by kernel_rfl, by kernel_rfl⟩ (by
  intro args ins out h hp
  unfold spq6 at h
  split at h
  · rename_i f side l n a b
    cases h
    exact vcFun_ok (C := Cq6) good sndq3 Meth.none mix Go.Proofs.Try.func6 (annq6 f side l n a b) (fun hw => by rw [← vcq6 f side l n a b]; exact pureq6 f side l n a b (hwq6 hw))
  · cases h)

theorem sndq7 : Sound Go.Proofs.Try.prog Gq7 := sndq6.add ⟨_, Go.Proofs.Try.func7, by kernel_rfl, by kernel_rfl⟩ (by
  intro args ins out h hp
  unfold spq7 at h
  split at h
  · rename_i s
    cases h
    exact vcFun_ok (C := Cq7) good sndq6 Meth.none mix Go.Proofs.Try.func7 (annq7 s) (fun hw => by rw [← vcq7 s]; exact pureq7 s)
  · cases h)

end Go.SL.A

/- The seat: closed facts that the rows of all its statements ask. -/
namespace Go.Proofs.Yteahjgigkbkcdaa.Seat
open Go Go.SL
set_option maxRecDepth 100000
theorem io0 : Go.Proofs.Try.prog.initOrder = String.ofList (([104, 97, 114, 110, 101, 115, 115, 32, 101, 102, 52, 57, 51, 99, 57, 50, 57, 99, 50, 98, 51, 57, 50, 48, 102, 54, 99, 50, 50, 97, 101, 57, 50, 100, 53, 99, 54, 53, 53, 99, 56, 57, 57, 51, 48, 54, 57, 100, 56, 102, 53, 55, 53, 99, 102, 97, 100, 97, 48, 97, 97, 48, 57, 101, 50, 48, 53, 99, 52, 57, 51, 55, 32, 99, 117, 116, 32, 97, 116, 32, 98, 101, 108, 102, 114, 121, 47, 98, 101, 108, 102, 114, 121, 108, 97, 119, 49, 57, 46, 80, 97, 99, 107, 80, 108, 97, 121, 115, 32, 98, 101, 108, 102, 114, 121, 47, 98, 101, 108, 102, 114, 121, 108, 97, 119, 49, 57, 46, 80, 97, 99, 107, 85, 110, 108, 105, 107, 101, 32, 98, 101, 108, 102, 114, 121, 47, 98, 101, 108, 102, 114, 121, 108, 97, 119, 49, 57, 46, 80, 97, 99, 107, 72, 101, 97, 100, 115, 32, 98, 101, 108, 102, 114, 121, 47, 98, 101, 108, 102, 114, 121, 108, 97, 119, 49, 57, 46, 80, 97, 99, 107, 66, 97, 99, 107, 32, 98, 101, 108, 102, 114, 121, 47, 98, 101, 108, 102, 114, 121, 108, 97, 119, 49, 57, 46, 80, 97, 99, 107, 79, 110, 108, 121] : List Nat).map Char.ofNat) := by kernel_rfl
theorem io : Go.Proofs.Try.prog.initOrder.toList = ([104, 97, 114, 110, 101, 115, 115, 32, 101, 102, 52, 57, 51, 99, 57, 50, 57, 99, 50, 98, 51, 57, 50, 48, 102, 54, 99, 50, 50, 97, 101, 57, 50, 100, 53, 99, 54, 53, 53, 99, 56, 57, 57, 51, 48, 54, 57, 100, 56, 102, 53, 55, 53, 99, 102, 97, 100, 97, 48, 97, 97, 48, 57, 101, 50, 48, 53, 99, 52, 57, 51, 55, 32, 99, 117, 116, 32, 97, 116, 32, 98, 101, 108, 102, 114, 121, 47, 98, 101, 108, 102, 114, 121, 108, 97, 119, 49, 57, 46, 80, 97, 99, 107, 80, 108, 97, 121, 115, 32, 98, 101, 108, 102, 114, 121, 47, 98, 101, 108, 102, 114, 121, 108, 97, 119, 49, 57, 46, 80, 97, 99, 107, 85, 110, 108, 105, 107, 101, 32, 98, 101, 108, 102, 114, 121, 47, 98, 101, 108, 102, 114, 121, 108, 97, 119, 49, 57, 46, 80, 97, 99, 107, 72, 101, 97, 100, 115, 32, 98, 101, 108, 102, 114, 121, 47, 98, 101, 108, 102, 114, 121, 108, 97, 119, 49, 57, 46, 80, 97, 99, 107, 66, 97, 99, 107, 32, 98, 101, 108, 102, 114, 121, 47, 98, 101, 108, 102, 114, 121, 108, 97, 119, 49, 57, 46, 80, 97, 99, 107, 79, 110, 108, 121] : List Nat).map Char.ofNat := by
  rw [io0]; exact String.toList_ofList
theorem hd : ∃ rest, behindMainWord (wordsSigns Go.Proofs.Try.prog.initOrder.toList) = cutW :: rest := by
  rw [io]
  exact ⟨(behindMainWord (wordsSigns (([104, 97, 114, 110, 101, 115, 115, 32, 101, 102, 52, 57, 51, 99, 57, 50, 57, 99, 50, 98, 51, 57, 50, 48, 102, 54, 99, 50, 50, 97, 101, 57, 50, 100, 53, 99, 54, 53, 53, 99, 56, 57, 57, 51, 48, 54, 57, 100, 56, 102, 53, 55, 53, 99, 102, 97, 100, 97, 48, 97, 97, 48, 57, 101, 50, 48, 53, 99, 52, 57, 51, 55, 32, 99, 117, 116, 32, 97, 116, 32, 98, 101, 108, 102, 114, 121, 47, 98, 101, 108, 102, 114, 121, 108, 97, 119, 49, 57, 46, 80, 97, 99, 107, 80, 108, 97, 121, 115, 32, 98, 101, 108, 102, 114, 121, 47, 98, 101, 108, 102, 114, 121, 108, 97, 119, 49, 57, 46, 80, 97, 99, 107, 85, 110, 108, 105, 107, 101, 32, 98, 101, 108, 102, 114, 121, 47, 98, 101, 108, 102, 114, 121, 108, 97, 119, 49, 57, 46, 80, 97, 99, 107, 72, 101, 97, 100, 115, 32, 98, 101, 108, 102, 114, 121, 47, 98, 101, 108, 102, 114, 121, 108, 97, 119, 49, 57, 46, 80, 97, 99, 107, 66, 97, 99, 107, 32, 98, 101, 108, 102, 114, 121, 47, 98, 101, 108, 102, 114, 121, 108, 97, 119, 49, 57, 46, 80, 97, 99, 107, 79, 110, 108, 121] : List Nat).map Char.ofNat))).tail, by kernel_rfl⟩
theorem later : Go.Proofs.Try.prog.laysLater = false := by kernel_rfl
theorem reflects : Go.Proofs.Try.prog.bearsReflect = false := by kernel_rfl
theorem door : Go.Proofs.Try.prog.doorFits [] = true := by kernel_rfl
theorem mayEnter : Go.Proofs.Try.prog.mayEnter = true := let ⟨_, h⟩ := hd; mayEnter_cut h later reflects door
theorem lifts : Go.Proofs.Try.prog.liftsFinal = false := let ⟨_, h⟩ := hd; lifts_cut h
theorem made : Go.Proofs.Try.prog.make = some .cut := let ⟨_, h⟩ := hd; make_cut h
theorem laidOut : laidOutB Go.Proofs.Try.prog = true := by kernel_rfl
theorem mapsRowed : mapsRowed Go.Proofs.Try.prog = true := by kernel_rfl
theorem stops : (Go.Proofs.Try.prog.stops == []) = true := by kernel_rfl
theorem knobs : (Go.Proofs.Try.prog.stopKnobs == []) = true := by kernel_rfl
theorem heard : Go.Proofs.Try.prog.stopsHeard = true := by kernel_rfl
theorem own : ownKnob Go.Proofs.Try.prog.godebug = none := by kernel_rfl
theorem kids : Kids Go.Proofs.Try.prog (· < Go.Proofs.Try.prog.types.size) := kids_rows laidOut mapsRowed
theorem slicesFull : ∀ t e, t < Go.Proofs.Try.prog.types.size → Go.Proofs.Try.prog.underlying t = some (.slice e) → 0 < Go.Proofs.Try.prog.cellsOf e := slices_full_of Go.Proofs.Try.prog (by kernel_rfl)
end Go.Proofs.Yteahjgigkbkcdaa.Seat
