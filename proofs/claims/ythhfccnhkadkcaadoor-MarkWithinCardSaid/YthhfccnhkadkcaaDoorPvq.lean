/- The functions of the package pvq do what they are held to do; what vectors' numbers are. -/
import Derived.Test.YthhfccnhkadkcaaDoorT
import Derived.Test.YthhfccnhkadkcaaDoorKb
import Derived.Test.YthhfccnhkadkcaaDoorKeyed

/- Plain functions of pvq. -/
namespace Go.SL.S
open Go

def sz13 (x : Int) : Int := if x < -12 ∨ 12 < x then 13 else max x (-x)

def cntRow (prev : Nat → Int) : Nat → Int
  | 0 => prev 0
  | k + 1 => cntRow prev k + prev k + prev (k + 1)
def cnt0 : Nat → Int
  | 0 => 1
  | _ + 1 => 0
/-- So many vectors of n numbers have k pulses. -/
def cnt : Nat → Nat → Int
  | 0 => cnt0
  | n + 1 => cntRow (cnt n)

def sumTo (f : Nat → Int) : Nat → Int
  | 0 => 0
  | j + 1 => sumTo f j + f j

def tab (f : Nat → Nat → Int) : List (List Int) := (List.range 9).map fun m => (List.range 13).map fun j => f m j
def tabF : List (List Int) := tab cnt
def f1 (n m j : Nat) : Int := if m < n then cnt m j else 0
def f2 (n k m j : Nat) : Int := if m < n ∨ (m = n ∧ j < k) then cnt m j else 0
def f3 (n k i m j : Nat) : Int := if m < n ∨ (m = n ∧ j < k) then cnt m j else if m = n ∧ j = k then cnt (n - 1) k + 2 * sumTo (cnt (n - 1)) i else 0

def mayF (n k : Int) : Bool := decide (0 ≤ n ∧ n ≤ 8 ∧ 0 ≤ k ∧ k ≤ 12)
def countF (n k : Int) : Int := if mayF n k then cnt n.toNat k.toNat else 0

def sumSz : List Int → Int
  | [] => 0
  | x :: l => sz13 x + sumSz l
def pulsesF (y : List Int) : Int := if 8 < y.length then 13 else min (sumSz y) 13

/-- 0, 1, -1, 2, .. up to k. -/
def numsF : Nat → List Int
  | 0 => [0]
  | k + 1 => numsF k ++ [((k + 1 : Nat) : Int), -((k + 1 : Nat) : Int)]

def idxFrom (v : Int) : List Int → Nat → Int
  | [], _ => -1
  | x :: l, i => if v = x then (i : Int) else idxFrom v l (i + 1)
def idxF (l : List Int) (v : Int) : Int := idxFrom v l 0
end Go.SL.S
namespace Go.SL.A
open Go Go.SL
abbrev TT : Ty := .arr 9 (.arr 13 (.int .i64))
end Go.SL.A

/- Functions and what they are held to do: bound to their code. -/
namespace Go.SL.A
open Go Go.SL Go.SL.S
set_option maxRecDepth 100000
noncomputable def C85 : Ctx := ⟨Go.Proofs.Tryd.prog, D, Gd20, (fun _ _ => none), fun _ => []⟩
def ann85 (_n _k : Int) : Nat → St → Option Ann := fun _ _ => none
def out85 (n k : Int) : COut := ⟨[], .v .bool (mayF n k), [], []⟩
def sp85 : Spec := fun args ins => match args, ins with
  | [⟨.int .i64, n⟩, ⟨.int .i64, k⟩], [] => some (out85 n k)
  | _, _ => none
def G85 := addG Gd20 65 sp85
def P85 (n k : Int) : Prop :=
  ∀ (b : Bool), decide ((0 : Int) ≤ n) = b → ∀ (b_1 : Bool), (bif b then decide (n ≤ (8 : Int)) else false) = b_1 → ∀ (b_2 : Bool), (bif b_1 then decide ((0 : Int) ≤ k) else false) = b_2 → ((b = true → b = true) ∧ (b = true
  → b = true) ∧ (b_1 = true → b_1 = true) ∧ (b_1 = true → b_1 = true) ∧ (b_2 = true → b_2 = true) ∧ (b_2 = true → b_2 = true)) ∧ (bif b_2 then decide (k ≤ (12 : Int)) else false) = mayF n k
theorem vc85 (n k : Int) : P85 n k = vcFun C85 (ann85 n k) Go.Proofs.Tryd.f65 [⟨.int .i64, n⟩, ⟨.int .i64, k⟩] [] (out85 n k) := by kernel_rfl

noncomputable def C86 : Ctx := ⟨Go.Proofs.Tryd.prog, D, G85, (fun _ _ => none), fun _ => []⟩
def ann86  : Nat → St → Option Ann := fun id S => match id with | 0 => some ⟨Nat, [1], [], fun n => [(2, .v (.int .i64) (n : Int))], fun n => [(0, some ⟨false, true, .arr 9 (.arr 13 (.int .i64)), [tab (f1 n)]⟩)], fun n => 1 ≤ n ∧ n ≤ 9, fun n => 9 - n⟩ | 2 => some ⟨Nat, [1, 2], [], fun k => [(11, .v (.int .i64) (k : Int))], fun k => [(0, some ⟨false, true, .arr 9 (.arr 13 (.int .i64)), [tab (f2 (S.i 2).toNat k)]⟩)], fun k => k ≤ 13, fun k => 13 - k⟩ | _ => some ⟨Nat, [1, 2, 3, 11, 24], [], fun i => [(25, .v (.int .i64) (i : Int))], fun i => [(0, some ⟨false, true, .arr 9 (.arr 13 (.int .i64)), [tab (f3 (S.i 2).toNat (S.i 3).toNat i)]⟩)], fun i => i ≤ (S.i 3).toNat, fun i => (S.i 3).toNat - i⟩
def out86  : COut := ⟨[], .v (.ref .ptr) (.ptr 0 (.arr 9 (.arr 13 (.int .i64))) [0]), [], [⟨false, true, .arr 9 (.arr 13 (.int .i64)), [tabF]⟩]⟩
def sp86 : Spec := fun args ins => match args, ins with
  | [], [] => some out86
  | _, _ => none
def G86 := addG G85 66 sp86
def P86  : Prop :=
  (((0 : Int) ≤ (0 : Int) ∧ (0 : Int) < (↑(9 : Nat) : Int)) ∧ ((0 : Int) ≤ (0 : Int) ∧ (0 : Int) < (↑(13 : Nat) : Int)) ∧ (0 : Nat) < (9 : Nat) ∧ (0 : Nat) < (13 : Nat)) ∧ ∃ (x : Nat), (((0 : Nat) = (0 : Nat) ∧ (1 : Int) =
  (↑x : Int) ∧ List.set (List.getD (List.replicate (9 : Nat) (List.replicate (13 : Nat) (0 : Int))) (0 : Nat) (List.replicate (13 : Nat) (0 : Int))) (0 : Nat) (1 : Int) :: List.replicate (nat_lit 8) (List.replicate (13 :
  Nat) (0 : Int)) = tab (f1 x) ∧ false = false) ∧ (1 : Nat) ≤ x ∧ x ≤ (9 : Nat)) ∧ ∀ (x : Nat), (1 : Nat) ≤ x ∧ x ≤ (9 : Nat) → (IntKind.min IntKind.i64 ≤ (↑x : Int) ∧ (↑x : Int) ≤ IntKind.max IntKind.i64 ∧ ∀ (y : List
  (List Int)), List.Mem y [tab (f1 x)] → List.length y = (9 : Nat) ∧ ∀ (y_1 : List Int), List.Mem y_1 y → List.length y_1 = (13 : Nat) ∧ ∀ (y : Int), List.Mem y y_1 → IntKind.min IntKind.i64 ≤ y ∧ y ≤ IntKind.max
  IntKind.i64) → bif decide ((↑x : Int) ≤ (8 : Int)) then ∃ (x_1 : Nat), (((0 : Nat) = (0 : Nat) ∧ (↑x : Int) = (↑x : Int) ∧ (0 : Int) = (↑x_1 : Int) ∧ tab (f1 x) = tab (f2 (Int.toNat (↑x : Int)) x_1) ∧ false = false) ∧ x_1
  ≤ (13 : Nat)) ∧ ∀ (x_2 : Nat), x_2 ≤ (13 : Nat) → (IntKind.min IntKind.i64 ≤ (↑x_2 : Int) ∧ (↑x_2 : Int) ≤ IntKind.max IntKind.i64 ∧ ∀ (y : List (List Int)), List.Mem y [tab (f2 (Int.toNat (↑x : Int)) x_2)] → List.length
  y = (9 : Nat) ∧ ∀ (y_1 : List Int), List.Mem y_1 y → List.length y_1 = (13 : Nat) ∧ ∀ (y : Int), List.Mem y y_1 → IntKind.min IntKind.i64 ≤ y ∧ y ≤ IntKind.max IntKind.i64) → bif decide ((↑x_2 : Int) < (13 : Int)) then
  (((0 : Int) ≤ IntKind.wrap IntKind.i64 ((↑x : Int) - (1 : Int)) ∧ IntKind.wrap IntKind.i64 ((↑x : Int) - (1 : Int)) < (↑(9 : Nat) : Int)) ∧ ((0 : Int) ≤ (↑x_2 : Int) ∧ (↑x_2 : Int) < (↑(13 : Nat) : Int)) ∧ Int.toNat
  (IntKind.wrap IntKind.i64 ((↑x : Int) - (1 : Int))) < (9 : Nat) ∧ Int.toNat (↑x_2 : Int) < (13 : Nat) ∧ ((0 : Int) ≤ (↑x : Int) ∧ (↑x : Int) < (↑(9 : Nat) : Int)) ∧ ((0 : Int) ≤ (↑x_2 : Int) ∧ (↑x_2 : Int) < (↑(13 : Nat)
  : Int)) ∧ Int.toNat (↑x : Int) < (9 : Nat) ∧ Int.toNat (↑x_2 : Int) < (13 : Nat)) ∧ ∃ (x_3 : Nat), (((0 : Nat) = (0 : Nat) ∧ (↑x : Int) = (↑x : Int) ∧ (↑x_2 : Int) = (↑x_2 : Int) ∧ (↑x_2 : Int) = (↑x_2 : Int) ∧ (↑x_2 :
  Int) = (↑x_2 : Int) ∧ (0 : Int) = (↑x_3 : Int) ∧ List.set (tab (f2 (Int.toNat (↑x : Int)) x_2)) (Int.toNat (↑x : Int)) (List.set (List.getD (tab (f2 (Int.toNat (↑x : Int)) x_2)) (Int.toNat (↑x : Int)) (List.replicate (13
  : Nat) (0 : Int))) (Int.toNat (↑x_2 : Int)) (List.getD (List.getD (tab (f2 (Int.toNat (↑x : Int)) x_2)) (Int.toNat (IntKind.wrap IntKind.i64 ((↑x : Int) - (1 : Int)))) (List.replicate (13 : Nat) (0 : Int))) (Int.toNat
  (↑x_2 : Int)) (0 : Int))) = tab (f3 (Int.toNat (↑x : Int)) (Int.toNat (↑x_2 : Int)) x_3) ∧ false = false) ∧ x_3 ≤ Int.toNat (↑x_2 : Int)) ∧ ∀ (x_4 : Nat), x_4 ≤ Int.toNat (↑x_2 : Int) → (IntKind.min IntKind.i64 ≤ (↑x_4 :
  Int) ∧ (↑x_4 : Int) ≤ IntKind.max IntKind.i64 ∧ ∀ (y : List (List Int)), List.Mem y [tab (f3 (Int.toNat (↑x : Int)) (Int.toNat (↑x_2 : Int)) x_4)] → List.length y = (9 : Nat) ∧ ∀ (y_1 : List Int), List.Mem y_1 y →
  List.length y_1 = (13 : Nat) ∧ ∀ (y : Int), List.Mem y y_1 → IntKind.min IntKind.i64 ≤ y ∧ y ≤ IntKind.max IntKind.i64) → bif decide ((↑x_4 : Int) < (↑x_2 : Int)) then (((0 : Int) ≤ (↑x : Int) ∧ (↑x : Int) < (↑(9 : Nat) :
  Int)) ∧ ((0 : Int) ≤ (↑x_2 : Int) ∧ (↑x_2 : Int) < (↑(13 : Nat) : Int)) ∧ Int.toNat (↑x : Int) < (9 : Nat) ∧ Int.toNat (↑x_2 : Int) < (13 : Nat) ∧ ((0 : Int) ≤ IntKind.wrap IntKind.i64 ((↑x : Int) - (1 : Int)) ∧
  IntKind.wrap IntKind.i64 ((↑x : Int) - (1 : Int)) < (↑(9 : Nat) : Int)) ∧ ((0 : Int) ≤ (↑x_4 : Int) ∧ (↑x_4 : Int) < (↑(13 : Nat) : Int)) ∧ Int.toNat (IntKind.wrap IntKind.i64 ((↑x : Int) - (1 : Int))) < (9 : Nat) ∧
  Int.toNat (↑x_4 : Int) < (13 : Nat) ∧ ((0 : Int) ≤ (↑x : Int) ∧ (↑x : Int) < (↑(9 : Nat) : Int)) ∧ ((0 : Int) ≤ (↑x_2 : Int) ∧ (↑x_2 : Int) < (↑(13 : Nat) : Int)) ∧ Int.toNat (↑x : Int) < (9 : Nat) ∧ Int.toNat (↑x_2 :
  Int) < (13 : Nat)) ∧ ∃ (y : Nat), ((0 : Nat) = (0 : Nat) ∧ (↑x : Int) = (↑x : Int) ∧ (↑x_2 : Int) = (↑x_2 : Int) ∧ (↑x_2 : Int) = (↑x_2 : Int) ∧ (↑x_2 : Int) = (↑x_2 : Int) ∧ IntKind.wrap IntKind.i64 ((↑x_4 : Int) + (1 :
  Int)) = (↑y : Int) ∧ List.set (tab (f3 (Int.toNat (↑x : Int)) (Int.toNat (↑x_2 : Int)) x_4)) (Int.toNat (↑x : Int)) (List.set (List.getD (tab (f3 (Int.toNat (↑x : Int)) (Int.toNat (↑x_2 : Int)) x_4)) (Int.toNat (↑x :
  Int)) (List.replicate (13 : Nat) (0 : Int))) (Int.toNat (↑x_2 : Int)) (IntKind.wrap IntKind.i64 (List.getD (List.getD (tab (f3 (Int.toNat (↑x : Int)) (Int.toNat (↑x_2 : Int)) x_4)) (Int.toNat (↑x : Int)) (List.replicate
  (13 : Nat) (0 : Int))) (Int.toNat (↑x_2 : Int)) (0 : Int) + IntKind.wrap IntKind.i64 ((2 : Int) * List.getD (List.getD (tab (f3 (Int.toNat (↑x : Int)) (Int.toNat (↑x_2 : Int)) x_4)) (Int.toNat (IntKind.wrap IntKind.i64
  ((↑x : Int) - (1 : Int)))) (List.replicate (13 : Nat) (0 : Int))) (Int.toNat (↑x_4 : Int)) (0 : Int))))) = tab (f3 (Int.toNat (↑x : Int)) (Int.toNat (↑x_2 : Int)) y) ∧ false = false) ∧ y ≤ Int.toNat (↑x_2 : Int) ∧
  Int.toNat (↑x_2 : Int) - y < Int.toNat (↑x_2 : Int) - x_4 else ∃ (y : Nat), ((0 : Nat) = (0 : Nat) ∧ (↑x : Int) = (↑x : Int) ∧ IntKind.wrap IntKind.i64 ((↑x_2 : Int) + (1 : Int)) = (↑y : Int) ∧ tab (f3 (Int.toNat (↑x :
  Int)) (Int.toNat (↑x_2 : Int)) x_4) = tab (f2 (Int.toNat (↑x : Int)) y) ∧ false = false) ∧ y ≤ (13 : Nat) ∧ (13 : Nat) - y < (13 : Nat) - x_2 else ∃ (y : Nat), ((0 : Nat) = (0 : Nat) ∧ IntKind.wrap IntKind.i64 ((↑x : Int)
  + (1 : Int)) = (↑y : Int) ∧ tab (f2 (Int.toNat (↑x : Int)) x_2) = tab (f1 y) ∧ false = false) ∧ ((1 : Nat) ≤ y ∧ y ≤ (9 : Nat)) ∧ (9 : Nat) - y < (9 : Nat) - x else (0 : Nat) = (0 : Nat) ∧ tab (f1 x) = tabF ∧ false =
  false
theorem vc86 : P86  = vcFun C86 (ann86 ) Go.Proofs.Tryd.f66 [] [] out86 := by kernel_rfl

noncomputable def C41 : Ctx := ⟨Go.Proofs.Tryd.prog, D, G86, (fun _ _ => none), fun _ => []⟩
def ann41 (_n _k : Int) : Nat → St → Option Ann := fun _ _ => none
def out41 (n k : Int) : COut := ⟨[], .v (.int .i64) (countF n k), [], []⟩
def sp41 : Spec := fun args ins => match args, ins with
  | [⟨.int .i64, n⟩, ⟨.int .i64, k⟩], [] => some (out41 n k)
  | _, _ => none
def G41 := addG G86 28 sp41
def P41 (n k : Int) : Prop :=
  bif !mayF n k then (0 : Int) = countF n k else (((0 : Int) ≤ n ∧ n < (↑(9 : Nat) : Int)) ∧ ((0 : Int) ≤ k ∧ k < (↑(13 : Nat) : Int)) ∧ Int.toNat n < (9 : Nat) ∧ Int.toNat k < (13 : Nat)) ∧ List.getD (List.getD tabF
  (Int.toNat n) (List.replicate (13 : Nat) (0 : Int))) (Int.toNat k) (0 : Int) = countF n k
theorem vc41 (n k : Int) : P41 n k = vcFun C41 (ann41 n k) Go.Proofs.Tryd.f28 [⟨.int .i64, n⟩, ⟨.int .i64, k⟩] [] (out41 n k) := by kernel_rfl

noncomputable def C89 : Ctx := ⟨Go.Proofs.Tryd.prog, D, G41, (fun _ _ => none), fun _ => []⟩
def ann89 (_x : Int) : Nat → St → Option Ann := fun _ _ => none
def out89 (x : Int) : COut := ⟨[], .v (.int .i64) (sz13 x), [], []⟩
def sp89 : Spec := fun args ins => match args, ins with
  | [⟨.int .i64, x⟩], [] => some (out89 x)
  | _, _ => none
def G89 := addG G41 64 sp89
def P89 (x : Int) : Prop :=
  ∀ (b : Bool), decide (x < (-12 : Int)) = b → (((!b) = true → (!b) = true) ∧ (b = false → (!b) = true)) ∧ bif bif b then true else decide ((12 : Int) < x) then (13 : Int) = sz13 x else max x (IntKind.wrap IntKind.i64 ((0 :
  Int) - x)) = sz13 x
theorem vc89 (x : Int) : P89 x = vcFun C89 (ann89 x) Go.Proofs.Tryd.f64 [⟨.int .i64, x⟩] [] (out89 x) := by kernel_rfl

noncomputable def C44 : Ctx := ⟨Go.Proofs.Tryd.prog, D, G89, (fun _ _ => none), fun _ => []⟩
def ann44 (_r : Bool) (_n : Nat) (y : List Int) : Nat → St → Option Ann := fun _ _ => some ⟨Nat, [9, 10], [0], fun k => [(11, .v (.int .i64) (k : Int)), (3, .v (.int .i64) (sumSz (y.take k)))], fun _ => [], fun k => k ≤ y.length, fun k => y.length - k⟩
def out44 (_r : Bool) (n : Nat) (y : List Int) : COut := ⟨[n = y.length], .v (.int .i64) (pulsesF y), [], []⟩
def sp44 : Spec := fun args ins => match args, ins with
  | [⟨.ref .slice, .slice 0 (.int .i64) [] 0 n⟩], [⟨r, false, .int .i64, y⟩] => some (out44 r n y)
  | _, _ => none
def G44 := addG G89 27 sp44
def P44 (r : Bool) (n : Nat) (y : List Int) : Prop :=
  bif decide ((8 : Int) < (↑n : Int)) then (13 : Int) = pulsesF y ∧ y = y ∧ r = r else ∃ (x : Nat), (((0 : Int) = sumSz (List.take x y) ∧ (0 : Nat) = (0 : Nat) ∧ n = n ∧ (↑n : Int) = (↑n : Int) ∧ (0 : Int) = (↑x : Int) ∧ y
  = y ∧ r = r) ∧ x ≤ List.length y) ∧ ∀ (x : Nat), x ≤ List.length y → IntKind.min IntKind.i64 ≤ (↑x : Int) ∧ (↑x : Int) ≤ IntKind.max IntKind.i64 ∧ IntKind.min IntKind.i64 ≤ sumSz (List.take x y) ∧ sumSz (List.take x y) ≤
  IntKind.max IntKind.i64 → bif decide ((↑x : Int) < (↑n : Int)) then (((0 : Int) ≤ (↑x : Int) ∧ (↑x : Int) < (↑n : Int)) ∧ (0 : Nat) + Int.toNat (↑x : Int) < List.length y) ∧ ∃ (y_1 : Nat), (IntKind.wrap IntKind.i64 (sumSz
  (List.take x y) + sz13 (List.getD y ((0 : Nat) + Int.toNat (↑x : Int)) (0 : Int))) = sumSz (List.take y_1 y) ∧ (0 : Nat) = (0 : Nat) ∧ n = n ∧ (↑n : Int) = (↑n : Int) ∧ IntKind.wrap IntKind.i64 ((↑x : Int) + (1 : Int)) =
  (↑y_1 : Int) ∧ y = y ∧ r = r) ∧ y_1 ≤ List.length y ∧ List.length y - y_1 < List.length y - x else min (sumSz (List.take x y)) (13 : Int) = pulsesF y ∧ y = y ∧ r = r
theorem vc44 (r : Bool) (n : Nat) (y : List Int) : P44 r n y = vcFun C44 (ann44 r n y) Go.Proofs.Tryd.f27 [⟨.ref .slice, .slice 0 (.int .i64) [] 0 n⟩] [⟨r, false, .int .i64, y⟩] (out44 r n y) := by kernel_rfl

noncomputable def C87 : Ctx := ⟨Go.Proofs.Tryd.prog, D, G44, (fun _ _ => none), fun _ => []⟩
def ann87 (k : Int) : Nat → St → Option Ann := fun _ _ => some ⟨Nat, [0], [], fun x => [(4, .v (.int .i64) ((x : Int) + 1)), (3, .v (.ref .slice) (.slice 1 (.int .i64) [] 0 (2 * x + 1)))], fun x => [(1, some ⟨false, false, .int .i64, numsF x⟩)], fun x => x ≤ k.toNat, fun x => k.toNat - x⟩
def out87 (k : Int) : COut := ⟨[k ≤ 1000000], .v (.ref .slice) (.slice 0 (.int .i64) [] 0 (2 * k.toNat + 1)), [], [⟨false, false, .int .i64, numsF k.toNat⟩]⟩
def sp87 : Spec := fun args ins => match args, ins with
  | [⟨.int .i64, k⟩], [] => some (out87 k)
  | _, _ => none
def G87 := addG G44 67 sp87
def P87 (k : Int) : Prop :=
  ∃ (x : Nat), ((k = k ∧ (0 : Nat) = (0 : Nat) ∧ (1 : Nat) = (2 : Nat) * x + (1 : Nat) ∧ (1 : Int) = (↑x : Int) + (1 : Int) ∧ (0 : Int) :: List.replicate (nat_lit 0) (0 : Int) = numsF x ∧ false = false) ∧ x ≤ Int.toNat k) ∧
  ∀ (x : Nat), x ≤ Int.toNat k → (IntKind.min IntKind.i64 ≤ (↑x : Int) + (1 : Int) ∧ (↑x : Int) + (1 : Int) ≤ IntKind.max IntKind.i64 ∧ ∀ (y : Int), List.Mem y (numsF x) → IntKind.min IntKind.i64 ≤ y ∧ y ≤ IntKind.max
  IntKind.i64) → bif decide ((↑x : Int) + (1 : Int) ≤ k) then ((2 : Nat) ≤ (2 : Nat) ∧ (0 : Nat) + ((2 : Nat) * x + (1 : Nat)) = List.length (numsF x) ∧ ((2 : Nat) * x + (1 : Nat) + List.length (seg (((↑x : Int) + (1 :
  Int)) :: List.set (List.replicate (nat_lit 1) (0 : Int)) (nat_lit 0) (IntKind.wrap IntKind.i64 ((0 : Int) - ((↑x : Int) + (1 : Int))))) (0 : Nat) (2 : Nat))) * (8 : Nat) ≤ (70368744177664 : Nat)) ∧ ∃ (y : Nat), (k = k ∧
  (0 : Nat) = (0 : Nat) ∧ (2 : Nat) * x + (1 : Nat) + List.length (seg (((↑x : Int) + (1 : Int)) :: List.set (List.replicate (nat_lit 1) (0 : Int)) (nat_lit 0) (IntKind.wrap IntKind.i64 ((0 : Int) - ((↑x : Int) + (1 :
  Int))))) (0 : Nat) (2 : Nat)) = (2 : Nat) * y + (1 : Nat) ∧ IntKind.wrap IntKind.i64 ((↑x : Int) + (1 : Int) + (1 : Int)) = (↑y : Int) + (1 : Int) ∧ List.append (List.drop (0 : Nat) (numsF x)) (seg (((↑x : Int) + (1 :
  Int)) :: List.set (List.replicate (nat_lit 1) (0 : Int)) (nat_lit 0) (IntKind.wrap IntKind.i64 ((0 : Int) - ((↑x : Int) + (1 : Int))))) (0 : Nat) (2 : Nat)) = numsF y ∧ false = false) ∧ y ≤ Int.toNat k ∧ Int.toNat k - y <
  Int.toNat k - x else (0 : Nat) = (0 : Nat) ∧ (2 : Nat) * x + (1 : Nat) = (2 : Nat) * Int.toNat k + (1 : Nat) ∧ numsF x = numsF (Int.toNat k) ∧ false = false
theorem vc87 (k : Int) : P87 k = vcFun C87 (ann87 k) Go.Proofs.Tryd.f67 [⟨.int .i64, k⟩] [] (out87 k) := by kernel_rfl

end Go.SL.A

namespace Go.SL.A
open Go Go.SL Go.SL.S

/-! ### Counts -/

theorem cnt_sum (n : Nat) : ∀ k, cnt (n + 1) k = cnt n k + 2 * sumTo (cnt n) k
  | 0 => by simp [cnt, cntRow, sumTo]
  | k + 1 => by
    rw [show cnt (n + 1) (k + 1) = cnt (n + 1) k + cnt n k + cnt n (k + 1) from rfl, cnt_sum n k, sumTo]
    omega

theorem cnt_le : ∀ n k, 0 ≤ cnt n k ∧ cnt n k ≤ ((3 ^ (n + k) : Nat) : Int)
  | 0, 0 => by decide
  | 0, k + 1 => by
    have : cnt 0 (k + 1) = 0 := rfl
    rw [this]
    exact ⟨Int.le_refl _, Int.natCast_nonneg _⟩
  | n + 1, 0 => by
    have := cnt_le n 0
    rw [show cnt (n + 1) 0 = cnt n 0 from rfl]
    have e : (3 : Nat) ^ (n + 1) = 3 * 3 ^ n := by rw [Nat.pow_succ]; omega
    simp only [Nat.add_zero] at *
    omega
  | n + 1, k + 1 => by
    have h1 := cnt_le (n + 1) k
    have h2 := cnt_le n k
    have h3 := cnt_le n (k + 1)
    rw [show cnt (n + 1) (k + 1) = cnt (n + 1) k + cnt n k + cnt n (k + 1) from rfl]
    have e1 : 3 ^ (n + 1 + k) = 3 * 3 ^ (n + k) := by rw [show n + 1 + k = n + k + 1 by omega, Nat.pow_succ]; omega
    have e2 : 3 ^ (n + (k + 1)) = 3 * 3 ^ (n + k) := by rw [show n + (k + 1) = n + k + 1 by omega, Nat.pow_succ]; omega
    have e3 : 3 ^ (n + 1 + (k + 1)) = 9 * 3 ^ (n + k) := by rw [show n + 1 + (k + 1) = n + k + 1 + 1 by omega, Nat.pow_succ, Nat.pow_succ]; omega
    omega

theorem cnt_fits {n k : Nat} (hn : n ≤ 8) (hk : k ≤ 12) : 0 ≤ cnt n k ∧ cnt n k ≤ 3486784401 := by
  have h := cnt_le n k
  have : 3 ^ (n + k) ≤ 3 ^ 20 := Nat.pow_le_pow_right (by decide) (by omega)
  have e : 3 ^ 20 = 3486784401 := by decide
  omega

theorem sumTo_nn {f : Nat → Int} (h : ∀ i, 0 ≤ f i) : ∀ i, 0 ≤ sumTo f i
  | 0 => by simp [sumTo]
  | i + 1 => by have := h i; have := sumTo_nn h i; simp only [sumTo]; omega

theorem sumTo_le {f : Nat → Int} (h : ∀ i, 0 ≤ f i) (i : Nat) : ∀ d, sumTo f i ≤ sumTo f (i + d)
  | 0 => Int.le_refl _
  | d + 1 => by have := h (i + d); have := sumTo_le h i d; rw [← Nat.add_assoc, sumTo]; omega

/-! ### Tables -/

theorem set_map_range {α : Type} (f : Nat → α) (n j : Nat) (v : α) : List.set ((List.range n).map f) j v = (List.range n).map fun i => if i = j then v else f i := by
  apply List.ext_getElem
  · simp
  · intro i h1 h2
    rw [List.getElem_set]
    simp only [List.getElem_map, List.getElem_range]
    by_cases h : j = i
    · subst h; simp
    · rw [if_neg h, if_neg (fun e => h e.symm)]

theorem row_get {g : Nat → Int} {j : Nat} (h : j < 13) : ((List.range 13).map g).getD j 0 = g j := by simp [h]
theorem tab_get {f : Nat → Nat → Int} {m : Nat} {d : List Int} (h : m < 9) : (tab f).getD m d = (List.range 13).map (f m) := by simp [tab, h]
theorem tab_congr {f g : Nat → Nat → Int} (h : ∀ m j, m < 9 → j < 13 → f m j = g m j) : tab f = tab g :=
  List.map_congr_left fun m hm => List.map_congr_left fun j hj => h m j (List.mem_range.1 hm) (List.mem_range.1 hj)
theorem tab_set {f g : Nat → Nat → Int} {m j : Nat} {v : Int} (h : ∀ m' j', m' < 9 → j' < 13 → g m' j' = if m' = m ∧ j' = j then v else f m' j') :
    List.set (tab f) m (List.set ((List.range 13).map (f m)) j v) = tab g := by
  rw [set_map_range]
  show List.set ((List.range 9).map _) m _ = _
  rw [set_map_range]
  refine List.map_congr_left fun m' hm => ?_
  by_cases e : m' = m
  · subst e
    rw [if_pos rfl]
    refine List.map_congr_left fun j' hj => ?_
    rw [h m' j' (List.mem_range.1 hm) (List.mem_range.1 hj)]
    simp
  · rw [if_neg e]
    refine List.map_congr_left fun j' hj => ?_
    rw [h m' j' (List.mem_range.1 hm) (List.mem_range.1 hj), if_neg (fun x => e x.1)]

/-! ### The functions -/

theorem pure85 (n k : Int) : P85 n k := by
  unfold P85 mayF
  rintro _ rfl _ rfl _ rfl
  refine ⟨by simp, ?_⟩
  by_cases h1 : 0 ≤ n <;> by_cases h2 : n ≤ 8 <;> by_cases h3 : 0 ≤ k <;> by_cases h4 : k ≤ 12 <;> simp [h1, h2, h3, h4]

theorem pure86 : P86 := by
  unfold P86
  simp only [Int.toNat_natCast, eq_self, true_and, and_true]
  refine ⟨by decide, 1, ⟨by decide, by decide⟩, fun n hn _ => ?_⟩
  by_cases h8 : (n : Int) ≤ 8
  · have hn8 : n ≤ 8 := by omega
    have w1 : IntKind.i64.wrap ((n : Int) - 1) = ((n - 1 : Nat) : Int) := by rw [w64 (by omega) (by omega)]; omega
    have w2 : IntKind.i64.wrap ((n : Int) + 1) = ((n + 1 : Nat) : Int) := by rw [w64 (by omega) (by omega)]; simp
    simp only [h8, decide_true, cond_true, w1, w2, Int.toNat_natCast]
    refine ⟨0, ⟨⟨rfl, tab_congr fun m j hm hj => by simp [f1, f2]⟩, by omega⟩, fun k hk _ => ?_⟩
    by_cases hk13 : (k : Int) < 13
    · have hk2 : k < 13 := by omega
      have w3 : IntKind.i64.wrap ((k : Int) + 1) = ((k + 1 : Nat) : Int) := by rw [w64 (by omega) (by omega)]; simp
      simp only [hk13, decide_true, cond_true, w3]
      rw [tab_get (f := f2 n k) (m := n) (by omega), tab_get (f := f2 n k) (m := n - 1) (by omega), row_get hk2]
      refine ⟨by omega, 0, ⟨⟨rfl, tab_set fun m' j' hm hj => ?_⟩, by omega⟩, fun i hi _ => ?_⟩
      · unfold f3 f2
        simp only [sumTo]
        by_cases e : m' = n ∧ j' = k
        · obtain ⟨rfl, rfl⟩ := e
          have h1 : m' - 1 < m' ∨ (m' - 1 = m' ∧ j' < j') := by omega
          have h2 : ¬ (m' < m' ∨ (m' = m' ∧ j' < j')) := by omega
          rw [if_neg h2, if_pos h1, if_pos ⟨rfl, rfl⟩, if_pos ⟨rfl, rfl⟩]; omega
        · simp [e]
      · by_cases hik : (i : Int) < (k : Int)
        · have w4 : IntKind.i64.wrap ((i : Int) + 1) = ((i + 1 : Nat) : Int) := by rw [w64 (by omega) (by omega)]; simp
          simp only [hik, decide_true, cond_true, w4]
          rw [tab_get (f := f3 n k i) (m := n) (by omega), tab_get (f := f3 n k i) (m := n - 1) (by omega), row_get hk2, row_get (show i < 13 by omega)]
          have e1 : f3 n k i n k = cnt (n - 1) k + 2 * sumTo (cnt (n - 1)) i := by simp [f3]
          have e2 : f3 n k i (n - 1) i = cnt (n - 1) i := by
            have : n - 1 < n ∨ (n - 1 = n ∧ i < k) := by omega
            simp [f3, this]
          rw [e1, e2]
          have hc1 := cnt_fits (n := n - 1) (k := i) (by omega) (by omega)
          have hc2 := cnt_fits (n := n) (k := k) (by omega) (by omega)
          have hs := cnt_sum (n - 1) k
          rw [show n - 1 + 1 = n by omega] at hs
          have hs2 := sumTo_le (f := cnt (n - 1)) (fun i => (cnt_le (n - 1) i).1) (i + 1) (k - (i + 1))
          rw [show i + 1 + (k - (i + 1)) = k by omega, sumTo] at hs2
          have hs3 := sumTo_nn (f := cnt (n - 1)) (fun i => (cnt_le (n - 1) i).1) i
          have hc3 := cnt_le (n - 1) k
          rw [w64 (n := 2 * cnt (n - 1) i) (by omega) (by omega), w64 (by omega) (by omega)]
          refine ⟨by omega, i + 1, ⟨rfl, tab_set fun m' j' hm hj => ?_⟩, by omega, by omega⟩
          unfold f3
          simp only [sumTo]
          by_cases e : m' = n ∧ j' = k
          · obtain ⟨rfl, rfl⟩ := e
            simp; omega
          · simp [e]
        · have : i = k := by omega
          subst this
          simp only [hik, decide_false, cond_false]
          refine ⟨i + 1, ⟨rfl, tab_congr fun m j hm hj => ?_⟩, by omega, by omega⟩
          have hs := cnt_sum (n - 1) i
          rw [show n - 1 + 1 = n by omega] at hs
          unfold f3 f2
          by_cases e : m < n ∨ (m = n ∧ j < i)
          · rw [if_pos e, if_pos (by omega)]
          · rw [if_neg e]
            by_cases e2 : m = n ∧ j = i
            · obtain ⟨rfl, rfl⟩ := e2
              rw [if_pos ⟨rfl, rfl⟩, if_pos (by omega), hs]
            · rw [if_neg e2, if_neg (by omega)]
    · have : k = 13 := by omega
      subst this
      simp only [hk13, decide_false, cond_false]
      refine ⟨n + 1, ⟨rfl, tab_congr fun m j hm hj => ?_⟩, by omega, by omega⟩
      unfold f2 f1
      by_cases e : m < n + 1
      · rw [if_pos e, if_pos (by omega)]
      · rw [if_neg e, if_neg (by omega)]
  · have : n = 9 := by omega
    subst this
    simp only [h8, decide_false, cond_false]
    exact tab_congr fun m j hm hj => by simp [f1, hm]

theorem pure41 (n k : Int) : P41 n k := by
  unfold P41 countF
  cases hm : mayF n k with
  | false => simp
  | true =>
    have h : 0 ≤ n ∧ n ≤ 8 ∧ 0 ≤ k ∧ k ≤ 12 := by simpa [mayF] using hm
    simp only [Bool.not_true, cond_false, if_true]
    refine ⟨by omega, ?_⟩
    unfold tabF
    rw [tab_get (by omega), row_get (by omega)]

theorem pure89 (x : Int) : P89 x := by
  unfold P89 sz13
  rintro _ rfl
  refine ⟨by simp, ?_⟩
  by_cases h1 : x < -12
  · simp [h1]
  · by_cases h2 : 12 < x
    · simp [h1, h2]
    · have w : IntKind.i64.wrap (0 - x) = -x := by rw [w64 (by omega) (by omega)]; omega
      have h3 : ¬ (x < -12 ∨ 12 < x) := by omega
      rw [if_neg h3]
      simp only [h1, h2, decide_false, cond_false, w]

theorem sz13_le (x : Int) : 0 ≤ sz13 x ∧ sz13 x ≤ 13 := by unfold sz13; split <;> omega

theorem sumSz_append : ∀ a b : List Int, sumSz (a ++ b) = sumSz a + sumSz b
  | [], b => by simp [sumSz]
  | x :: a, b => by simp only [List.cons_append, sumSz, sumSz_append a b]; omega

theorem sumSz_le : ∀ a : List Int, 0 ≤ sumSz a ∧ sumSz a ≤ 13 * (a.length : Int)
  | [] => by simp [sumSz]
  | x :: a => by have := sumSz_le a; have := sz13_le x; simp only [sumSz, List.length_cons]; omega


theorem pure44 (r : Bool) (n : Nat) (y : List Int) (hn : n = y.length) : P44 r n y := by
  subst hn
  unfold P44 pulsesF
  by_cases h8 : (8 : Int) < (y.length : Int)
  · have : 8 < y.length := by omega
    rw [if_pos this]
    simp only [h8, decide_true, cond_true, and_self]
  · have h9 : ¬ 8 < y.length := by omega
    simp only [h8, h9, decide_false, cond_false, if_false, Int.toNat_natCast, Nat.zero_add, eq_self, true_and, and_true]
    refine ⟨0, ⟨by simp [sumSz], by omega⟩, fun k hk _ => ?_⟩
    by_cases h : (k : Int) < (y.length : Int)
    · have hk2 : k < y.length := by omega
      have w : IntKind.i64.wrap ((k : Int) + 1) = ((k + 1 : Nat) : Int) := by rw [w64 (by omega) (by omega)]; simp
      simp only [h, decide_true, cond_true]
      have h1 := sumSz_le (y.take k)
      have h2 := sz13_le (y.getD k 0)
      rw [List.length_take] at h1
      refine ⟨by simp [hk2], k + 1, ⟨?_, w⟩, by omega, by omega⟩
      rw [take_snoc' 0 hk2, sumSz_append, w64 (by omega) (by omega)]
      simp [sumSz]
    · have : k = y.length := by omega
      subst this
      simp only [h, decide_false, cond_false, List.take_length]

theorem numsF_len : ∀ k, (numsF k).length = 2 * k + 1
  | 0 => rfl
  | k + 1 => by simp [numsF, numsF_len k]; omega

theorem pure87 (k : Int) (hk : k ≤ 1000000) : P87 k := by
  unfold P87
  simp only [Nat.zero_add, eq_self, true_and, and_true]
  refine ⟨0, ⟨⟨by simp, by simp, rfl⟩, by omega⟩, fun x hx _ => ?_⟩
  by_cases h : (x : Int) + 1 ≤ k
  · simp only [h, decide_true, cond_true]
    have w1 : IntKind.i64.wrap ((x : Int) + 1 + 1) = ((x + 1 : Nat) : Int) + 1 := by rw [w64 (by omega) (by omega)]; simp
    have w2 : IntKind.i64.wrap (0 - ((x : Int) + 1)) = -((x + 1 : Nat) : Int) := by rw [w64 (by omega) (by omega)]; omega
    have es : seg (((x : Int) + 1) :: List.set (List.replicate 1 (0 : Int)) 0 (IntKind.i64.wrap (0 - ((x : Int) + 1)))) 0 2 = [((x + 1 : Nat) : Int), -((x + 1 : Nat) : Int)] := by
      rw [w2]; simp [seg]
    rw [es]
    refine ⟨⟨by omega, by rw [numsF_len], by simp; omega⟩, x + 1, ⟨by simp; omega, w1, rfl⟩, by omega, by omega⟩
  · have : x = k.toNat := by omega
    subst this
    simp only [h, decide_false, cond_false, and_self]

end Go.SL.A

/- Functions do what they are held to do. -/
namespace Go.SL.A
open Go Go.SL Go.SL.S
theorem snd85 : Sound Go.Proofs.Tryd.prog G85 := sndd20.add ⟨_, Go.Proofs.Tryd.func65, by kernel_rfl, by kernel_rfl⟩ (by
  intro args ins out h hp
  unfold sp85 at h
  split at h
  · rename_i n k
    cases h
    exact vcFun_ok (C := C85) good sndd20 Meth.none mix Go.Proofs.Tryd.func65 (ann85 n k) (fun hw => by rw [← vc85 n k]; exact pure85 n k)
  · cases h)

theorem snd86 : Sound Go.Proofs.Tryd.prog G86 := snd85.add ⟨_, Go.Proofs.Tryd.func66, by kernel_rfl, by kernel_rfl⟩ (by
  intro args ins out h hp
  unfold sp86 at h
  split at h
  · cases h
    exact vcFun_ok (C := C86) good snd85 Meth.none mix Go.Proofs.Tryd.func66 (ann86 ) (fun hw => by rw [← vc86 ]; exact pure86)
  · cases h)

theorem snd41 : Sound Go.Proofs.Tryd.prog G41 := snd86.add ⟨_, Go.Proofs.Tryd.func28, by kernel_rfl, by kernel_rfl⟩ (by
  intro args ins out h hp
  unfold sp41 at h
  split at h
  · rename_i n k
    cases h
    exact vcFun_ok (C := C41) good snd86 Meth.none mix Go.Proofs.Tryd.func28 (ann41 n k) (fun hw => by rw [← vc41 n k]; exact pure41 n k)
  · cases h)

theorem snd89 : Sound Go.Proofs.Tryd.prog G89 := snd41.add ⟨_, Go.Proofs.Tryd.func64, by kernel_rfl, by kernel_rfl⟩ (by
  intro args ins out h hp
  unfold sp89 at h
  split at h
  · rename_i x
    cases h
    exact vcFun_ok (C := C89) good snd41 Meth.none mix Go.Proofs.Tryd.func64 (ann89 x) (fun hw => by rw [← vc89 x]; exact pure89 x)
  · cases h)

theorem snd44 : Sound Go.Proofs.Tryd.prog G44 := snd89.add ⟨_, Go.Proofs.Tryd.func27, by kernel_rfl, by kernel_rfl⟩ (by
  intro args ins out h hp
  unfold sp44 at h
  split at h
  · rename_i n r y
    cases h
    exact vcFun_ok (C := C44) good snd89 Meth.none mix Go.Proofs.Tryd.func27 (ann44 r n y) (fun hw => by rw [← vc44 r n y]; exact pure44 r n y hp)
  · cases h)

theorem snd87 : Sound Go.Proofs.Tryd.prog G87 := snd44.add ⟨_, Go.Proofs.Tryd.func67, by kernel_rfl, by kernel_rfl⟩ (by
  intro args ins out h hp
  unfold sp87 at h
  split at h
  · rename_i k
    cases h
    exact vcFun_ok (C := C87) good snd44 Meth.none mix Go.Proofs.Tryd.func67 (ann87 k) (fun hw => by rw [← vc87 k]; exact pure87 k hp)
  · cases h)

end Go.SL.A

/- Plain functions of pvq, more. -/
namespace Go.SL.S
open Go

def sumBy (n K : Nat) : List Int → Int
  | [] => 0
  | z :: l => cnt n (K - (sz13 z).toNat) + sumBy n K l

/-- A vector's number. -/
def numF : List Int → Int
  | [] => 0
  | x :: ys => sumBy ys.length (sumSz (x :: ys)).toNat ((numsF (sumSz (x :: ys)).toNat).take (idxF (numsF (sumSz (x :: ys)).toNat) x).toNat) + numF ys
def indexF (y : List Int) : Int × Int := if 12 < pulsesF y then (0, 7) else (numF y, 0)

def pickF (n K : Nat) : List Int → Int → Nat → Int × Int
  | [], i, _ => (-1, i)
  | z :: l, i, j => if i < cnt n (K - (sz13 z).toNat) then ((j : Int), i) else pickF n K l (i - cnt n (K - (sz13 z).toNat)) (j + 1)

/-- How many pulses are left, the number that is left, and the numbers so far. -/
def vst (n : Nat) (k i : Int) : Nat → Int × Int × List Int
  | 0 => (k, i, [])
  | a + 1 =>
    let s := vst n k i a
    let p := pickF (n - a - 1) s.1.toNat (numsF s.1.toNat) s.2.1 0
    let z := (numsF s.1.toNat).getD p.1.toNat 0
    (s.1 - sz13 z, p.2, s.2.2 ++ [z])
def vecF (n k i : Int) : List Int := if mayF n k = true ∧ 0 ≤ i ∧ i < countF n k then (vst n.toNat k i n.toNat).2.2 else []
def vecE (n k i : Int) : Int := if mayF n k then (if 0 ≤ i ∧ i < countF n k then 0 else 7) else 1

def bitLen (m : Nat) : Nat := if m = 0 then 0 else m.log2 + 1
def bitsF (k : Int) : Int := (bitLen (countF 4 k - 1).toNat : Nat)
end Go.SL.S

/- Functions and what they are held to do: bound to their code. -/
namespace Go.SL.A
open Go Go.SL Go.SL.S
set_option maxRecDepth 100000
noncomputable def C91 : Ctx := ⟨Go.Proofs.Tryd.prog, D, G87, (fun _ _ => none), fun _ => []⟩
def ann91 (_x _n _a _k _i : Int) (_t : List (List Int)) : Nat → St → Option Ann := fun _ _ => none
def out91 (x n a k i : Int) (t : List (List Int)) : COut := ⟨[t = tabF, 0 ≤ n - a - 1 ∧ n ≤ 8 ∧ 0 ≤ a ∧ 0 ≤ k - sz13 x ∧ k ≤ 12 ∧ 0 ≤ i], .v .bool (decide (i < cnt (n - a - 1).toNat (k.toNat - (sz13 x).toNat))), [(4, some ⟨false, true, .int .i64, [if i < cnt (n - a - 1).toNat (k.toNat - (sz13 x).toNat) then i else i - cnt (n - a - 1).toNat (k.toNat - (sz13 x).toNat)]⟩)], []⟩
def sp91 : Spec := fun args ins => match args, ins with
  | [⟨.int .i64, x⟩, ⟨.ref .ptr, .ptr 0 (.ref .ptr) [0]⟩, ⟨.ref .ptr, .ptr 1 (.int .i64) [0]⟩, ⟨.ref .ptr, .ptr 2 (.int .i64) [0]⟩, ⟨.ref .ptr, .ptr 3 (.int .i64) [0]⟩, ⟨.ref .ptr, .ptr 4 (.int .i64) [0]⟩], [⟨false, true, .ref .ptr, [.ptr 5 (.arr 9 (.arr 13 (.int .i64))) [0]]⟩, ⟨false, true, .int .i64, [n]⟩, ⟨false, true, .int .i64, [a]⟩, ⟨false, true, .int .i64, [k]⟩, ⟨false, true, .int .i64, [i]⟩, ⟨false, true, .arr 9 (.arr 13 (.int .i64)), [t]⟩] => some (out91 x n a k i t)
  | _, _ => none
def G91 := addG G87 69 sp91
def P91 (x n a k i : Int) (t : List (List Int)) : Prop :=
  (((0 : Int) ≤ IntKind.wrap IntKind.i64 (IntKind.wrap IntKind.i64 (n - a) - (1 : Int)) ∧ IntKind.wrap IntKind.i64 (IntKind.wrap IntKind.i64 (n - a) - (1 : Int)) < (↑(9 : Nat) : Int)) ∧ ((0 : Int) ≤ IntKind.wrap IntKind.i64
  (k - sz13 x) ∧ IntKind.wrap IntKind.i64 (k - sz13 x) < (↑(13 : Nat) : Int)) ∧ Int.toNat (IntKind.wrap IntKind.i64 (IntKind.wrap IntKind.i64 (n - a) - (1 : Int))) < (9 : Nat) ∧ Int.toNat (IntKind.wrap IntKind.i64 (k - sz13
  x)) < (13 : Nat)) ∧ bif decide (i < List.getD (List.getD t (Int.toNat (IntKind.wrap IntKind.i64 (IntKind.wrap IntKind.i64 (n - a) - (1 : Int)))) (List.replicate (13 : Nat) (0 : Int))) (Int.toNat (IntKind.wrap IntKind.i64
  (k - sz13 x))) (0 : Int)) then true = decide (i < cnt (Int.toNat (n - a - (1 : Int))) (Int.toNat k - Int.toNat (sz13 x))) ∧ (0 : Nat) = (0 : Nat) ∧ false = false ∧ n = n ∧ false = false ∧ a = a ∧ false = false ∧ k = k ∧
  false = false ∧ (i = if i < cnt (Int.toNat (n - a - (1 : Int))) (Int.toNat k - Int.toNat (sz13 x)) then i else i - cnt (Int.toNat (n - a - (1 : Int))) (Int.toNat k - Int.toNat (sz13 x))) ∧ false = false ∧ t = t ∧ false =
  false else false = decide (i < cnt (Int.toNat (n - a - (1 : Int))) (Int.toNat k - Int.toNat (sz13 x))) ∧ (0 : Nat) = (0 : Nat) ∧ false = false ∧ n = n ∧ false = false ∧ a = a ∧ false = false ∧ k = k ∧ false = false ∧
  (IntKind.wrap IntKind.i64 (i - List.getD (List.getD t (Int.toNat (IntKind.wrap IntKind.i64 (IntKind.wrap IntKind.i64 (n - a) - (1 : Int)))) (List.replicate (13 : Nat) (0 : Int))) (Int.toNat (IntKind.wrap IntKind.i64 (k -
  sz13 x))) (0 : Int)) = if i < cnt (Int.toNat (n - a - (1 : Int))) (Int.toNat k - Int.toNat (sz13 x)) then i else i - cnt (Int.toNat (n - a - (1 : Int))) (Int.toNat k - Int.toNat (sz13 x))) ∧ false = false ∧ t = t ∧ false
  = false
theorem vc91 (x n a k i : Int) (t : List (List Int)) : P91 x n a k i t = vcFun C91 (ann91 x n a k i t) Go.Proofs.Tryd.f69 [⟨.int .i64, x⟩, ⟨.ref .ptr, .ptr 0 (.ref .ptr) [0]⟩, ⟨.ref .ptr, .ptr 1 (.int .i64) [0]⟩, ⟨.ref .ptr, .ptr 2 (.int .i64) [0]⟩, ⟨.ref .ptr, .ptr 3 (.int .i64) [0]⟩, ⟨.ref .ptr, .ptr 4 (.int .i64) [0]⟩] [⟨false, true, .ref .ptr, [.ptr 5 (.arr 9 (.arr 13 (.int .i64))) [0]]⟩, ⟨false, true, .int .i64, [n]⟩, ⟨false, true, .int .i64, [a]⟩, ⟨false, true, .int .i64, [k]⟩, ⟨false, true, .int .i64, [i]⟩, ⟨false, true, .arr 9 (.arr 13 (.int .i64)), [t]⟩] (out91 x n a k i t) := by kernel_rfl

noncomputable def C90 : Ctx := ⟨Go.Proofs.Tryd.prog, D, G91, (fun _ _ => none), fun _ => []⟩
def ann90 (_r : Bool) (_m : Nat) (n a k i : Int) (l : List Int) (_t : List (List Int)) : Nat → St → Option Ann := fun _ _ => some ⟨Nat, [0, 1, 6, 7], [0, 1, 2, 3, 4, 6], fun j => [(8, .v (.int .i64) (j : Int))], fun j => [(5, some ⟨false, true, .int .i64, [i - sumBy (n - a - 1).toNat k.toNat (l.take j)]⟩)], fun j => j ≤ l.length ∧ pickF (n - a - 1).toNat k.toNat l i 0 = pickF (n - a - 1).toNat k.toNat (l.drop j) (i - sumBy (n - a - 1).toNat k.toNat (l.take j)) j ∧ 0 ≤ i - sumBy (n - a - 1).toNat k.toNat (l.take j), fun j => l.length - j⟩
def out90 (_r : Bool) (m : Nat) (n a k i : Int) (l : List Int) (t : List (List Int)) : COut := ⟨[t = tabF, m = l.length ∧ m ≤ 1000000, 0 ≤ n - a - 1 ∧ n ≤ 8 ∧ 0 ≤ a ∧ (∀ z ∈ l, 0 ≤ k - sz13 z) ∧ k ≤ 12 ∧ 0 ≤ i], .v (.int .i64) (pickF (n - a - 1).toNat k.toNat l i 0).1, [(5, some ⟨false, true, .int .i64, [(pickF (n - a - 1).toNat k.toNat l i 0).2]⟩)], []⟩
def sp90 : Spec := fun args ins => match args, ins with
  | [⟨.ref .slice, .slice 0 (.int .i64) [] 0 m⟩, ⟨.ref .func, .func (.func 69) [] [.ptr 1 (.ref .ptr) [0], .ptr 2 (.int .i64) [0], .ptr 3 (.int .i64) [0], .ptr 4 (.int .i64) [0], .ptr 5 (.int .i64) [0]]⟩], [⟨r, false, .int .i64, l⟩, ⟨false, true, .ref .ptr, [.ptr 6 (.arr 9 (.arr 13 (.int .i64))) [0]]⟩, ⟨false, true, .int .i64, [n]⟩, ⟨false, true, .int .i64, [a]⟩, ⟨false, true, .int .i64, [k]⟩, ⟨false, true, .int .i64, [i]⟩, ⟨false, true, .arr 9 (.arr 13 (.int .i64)), [t]⟩] => some (out90 r m n a k i l t)
  | _, _ => none
def G90 := addG G91 68 sp90
def P90 (r : Bool) (m : Nat) (n a k i : Int) (l : List Int) (t : List (List Int)) : Prop :=
  ∃ (x : Nat), (((0 : Nat) = (0 : Nat) ∧ m = m ∧ (0 : Nat) = (0 : Nat) ∧ (0 : Nat) = (0 : Nat) ∧ (0 : Nat) = (0 : Nat) ∧ (0 : Nat) = (0 : Nat) ∧ (0 : Nat) = (0 : Nat) ∧ (0 : Nat) = (0 : Nat) ∧ m = m ∧ (↑m : Int) = (↑m :
  Int) ∧ (0 : Int) = (↑x : Int) ∧ l = l ∧ r = r ∧ (0 : Nat) = (0 : Nat) ∧ false = false ∧ n = n ∧ false = false ∧ a = a ∧ false = false ∧ k = k ∧ false = false ∧ i = i - sumBy (Int.toNat (n - a - (1 : Int))) (Int.toNat k)
  (List.take x l) ∧ false = false ∧ t = t ∧ false = false) ∧ x ≤ List.length l ∧ pickF (Int.toNat (n - a - (1 : Int))) (Int.toNat k) l i (0 : Nat) = pickF (Int.toNat (n - a - (1 : Int))) (Int.toNat k) (List.drop x l) (i -
  sumBy (Int.toNat (n - a - (1 : Int))) (Int.toNat k) (List.take x l)) x ∧ (0 : Int) ≤ i - sumBy (Int.toNat (n - a - (1 : Int))) (Int.toNat k) (List.take x l)) ∧ ∀ (x : Nat), x ≤ List.length l ∧ pickF (Int.toNat (n - a - (1
  : Int))) (Int.toNat k) l i (0 : Nat) = pickF (Int.toNat (n - a - (1 : Int))) (Int.toNat k) (List.drop x l) (i - sumBy (Int.toNat (n - a - (1 : Int))) (Int.toNat k) (List.take x l)) x ∧ (0 : Int) ≤ i - sumBy (Int.toNat (n
  - a - (1 : Int))) (Int.toNat k) (List.take x l) → (IntKind.min IntKind.i64 ≤ (↑x : Int) ∧ (↑x : Int) ≤ IntKind.max IntKind.i64 ∧ ∀ (y : Int), List.Mem y [i - sumBy (Int.toNat (n - a - (1 : Int))) (Int.toNat k) (List.take
  x l)] → IntKind.min IntKind.i64 ≤ y ∧ y ≤ IntKind.max IntKind.i64) → bif decide ((↑x : Int) < (↑m : Int)) then (((0 : Int) ≤ (↑x : Int) ∧ (↑x : Int) < (↑m : Int)) ∧ (0 : Nat) + Int.toNat (↑x : Int) < List.length l ∧ t =
  tabF ∧ (0 : Int) ≤ n - a - (1 : Int) ∧ n ≤ (8 : Int) ∧ (0 : Int) ≤ a ∧ (0 : Int) ≤ k - sz13 (List.getD l ((0 : Nat) + Int.toNat (↑x : Int)) (0 : Int)) ∧ k ≤ (12 : Int) ∧ (0 : Int) ≤ i - sumBy (Int.toNat (n - a - (1 :
  Int))) (Int.toNat k) (List.take x l)) ∧ bif decide (i - sumBy (Int.toNat (n - a - (1 : Int))) (Int.toNat k) (List.take x l) < cnt (Int.toNat (n - a - (1 : Int))) (Int.toNat k - Int.toNat (sz13 (List.getD l ((0 : Nat) +
  Int.toNat (↑x : Int)) (0 : Int))))) then (↑x : Int) = Prod.fst (pickF (Int.toNat (n - a - (1 : Int))) (Int.toNat k) l i (0 : Nat)) ∧ l = l ∧ r = r ∧ (0 : Nat) = (0 : Nat) ∧ false = false ∧ n = n ∧ false = false ∧ a = a ∧
  false = false ∧ k = k ∧ false = false ∧ (if i - sumBy (Int.toNat (n - a - (1 : Int))) (Int.toNat k) (List.take x l) < cnt (Int.toNat (n - a - (1 : Int))) (Int.toNat k - Int.toNat (sz13 (List.getD l ((0 : Nat) + Int.toNat
  (↑x : Int)) (0 : Int)))) then i - sumBy (Int.toNat (n - a - (1 : Int))) (Int.toNat k) (List.take x l) else i - sumBy (Int.toNat (n - a - (1 : Int))) (Int.toNat k) (List.take x l) - cnt (Int.toNat (n - a - (1 : Int)))
  (Int.toNat k - Int.toNat (sz13 (List.getD l ((0 : Nat) + Int.toNat (↑x : Int)) (0 : Int))))) = Prod.snd (pickF (Int.toNat (n - a - (1 : Int))) (Int.toNat k) l i (0 : Nat)) ∧ false = false ∧ t = t ∧ false = false else ∃ (y
  : Nat), ((0 : Nat) = (0 : Nat) ∧ m = m ∧ (0 : Nat) = (0 : Nat) ∧ (0 : Nat) = (0 : Nat) ∧ (0 : Nat) = (0 : Nat) ∧ (0 : Nat) = (0 : Nat) ∧ (0 : Nat) = (0 : Nat) ∧ (0 : Nat) = (0 : Nat) ∧ m = m ∧ (↑m : Int) = (↑m : Int) ∧
  IntKind.wrap IntKind.i64 ((↑x : Int) + (1 : Int)) = (↑y : Int) ∧ l = l ∧ r = r ∧ (0 : Nat) = (0 : Nat) ∧ false = false ∧ n = n ∧ false = false ∧ a = a ∧ false = false ∧ k = k ∧ false = false ∧ (if i - sumBy (Int.toNat (n
  - a - (1 : Int))) (Int.toNat k) (List.take x l) < cnt (Int.toNat (n - a - (1 : Int))) (Int.toNat k - Int.toNat (sz13 (List.getD l ((0 : Nat) + Int.toNat (↑x : Int)) (0 : Int)))) then i - sumBy (Int.toNat (n - a - (1 :
  Int))) (Int.toNat k) (List.take x l) else i - sumBy (Int.toNat (n - a - (1 : Int))) (Int.toNat k) (List.take x l) - cnt (Int.toNat (n - a - (1 : Int))) (Int.toNat k - Int.toNat (sz13 (List.getD l ((0 : Nat) + Int.toNat
  (↑x : Int)) (0 : Int))))) = i - sumBy (Int.toNat (n - a - (1 : Int))) (Int.toNat k) (List.take y l) ∧ false = false ∧ t = t ∧ false = false) ∧ (y ≤ List.length l ∧ pickF (Int.toNat (n - a - (1 : Int))) (Int.toNat k) l i
  (0 : Nat) = pickF (Int.toNat (n - a - (1 : Int))) (Int.toNat k) (List.drop y l) (i - sumBy (Int.toNat (n - a - (1 : Int))) (Int.toNat k) (List.take y l)) y ∧ (0 : Int) ≤ i - sumBy (Int.toNat (n - a - (1 : Int)))
  (Int.toNat k) (List.take y l)) ∧ List.length l - y < List.length l - x else (-1 : Int) = Prod.fst (pickF (Int.toNat (n - a - (1 : Int))) (Int.toNat k) l i (0 : Nat)) ∧ l = l ∧ r = r ∧ (0 : Nat) = (0 : Nat) ∧ false = false
  ∧ n = n ∧ false = false ∧ a = a ∧ false = false ∧ k = k ∧ false = false ∧ i - sumBy (Int.toNat (n - a - (1 : Int))) (Int.toNat k) (List.take x l) = Prod.snd (pickF (Int.toNat (n - a - (1 : Int))) (Int.toNat k) l i (0 :
  Nat)) ∧ false = false ∧ t = t ∧ false = false
theorem vc90 (r : Bool) (m : Nat) (n a k i : Int) (l : List Int) (t : List (List Int)) : P90 r m n a k i l t = vcFun C90 (ann90 r m n a k i l t) Go.Proofs.Tryd.f68 [⟨.ref .slice, .slice 0 (.int .i64) [] 0 m⟩, ⟨.ref .func, .func (.func 69) [] [.ptr 1 (.ref .ptr) [0], .ptr 2 (.int .i64) [0], .ptr 3 (.int .i64) [0], .ptr 4 (.int .i64) [0], .ptr 5 (.int .i64) [0]]⟩] [⟨r, false, .int .i64, l⟩, ⟨false, true, .ref .ptr, [.ptr 6 (.arr 9 (.arr 13 (.int .i64))) [0]]⟩, ⟨false, true, .int .i64, [n]⟩, ⟨false, true, .int .i64, [a]⟩, ⟨false, true, .int .i64, [k]⟩, ⟨false, true, .int .i64, [i]⟩, ⟨false, true, .arr 9 (.arr 13 (.int .i64)), [t]⟩] (out90 r m n a k i l t) := by kernel_rfl

end Go.SL.A

namespace Go.SL.A
open Go Go.SL Go.SL.S

theorem tabF_get {a b : Int} (h1 : 0 ≤ a) (h2 : a ≤ 8) (h3 : 0 ≤ b) (h4 : b ≤ 12) : (tabF.getD a.toNat (List.replicate 13 0)).getD b.toNat 0 = cnt a.toNat b.toNat := by
  unfold tabF; rw [tab_get (by omega), row_get (by omega)]

theorem pure91 (x n a k i : Int) (t : List (List Int)) (ht : t = tabF) (hp : 0 ≤ n - a - 1 ∧ n ≤ 8 ∧ 0 ≤ a ∧ 0 ≤ k - sz13 x ∧ k ≤ 12 ∧ 0 ≤ i) (hi : i ≤ 9223372036854775807) : P91 x n a k i t := by
  subst ht
  obtain ⟨h1, h2, h3, h4, h5, h6⟩ := hp
  have hz := sz13_le x
  unfold P91
  have w1 : IntKind.i64.wrap (n - a) = n - a := w64 (by omega) (by omega)
  have w2 : IntKind.i64.wrap (n - a - 1) = n - a - 1 := w64 (by omega) (by omega)
  have w3 : IntKind.i64.wrap (k - sz13 x) = k - sz13 x := w64 (by omega) (by omega)
  have e : k.toNat - (sz13 x).toNat = (k - sz13 x).toNat := by omega
  rw [w1, w2, w3, e, tabF_get h1 (by omega) h4 (by omega)]
  have hc := cnt_fits (n := (n - a - 1).toNat) (k := (k - sz13 x).toNat) (by omega) (by omega)
  generalize cnt (n - a - 1).toNat (k - sz13 x).toNat = c at *
  refine ⟨by omega, ?_⟩
  by_cases h : i < c
  · simp only [h, decide_true, cond_true, if_true, and_self]
  · have w4 : IntKind.i64.wrap (i - c) = i - c := w64 (by omega) (by omega)
    simp only [h, decide_false, cond_false, if_false, and_self, w4]

theorem pure90 (r : Bool) (m : Nat) (n a k i : Int) (l : List Int) (t : List (List Int)) (ht : t = tabF) (hm : m = l.length ∧ m ≤ 1000000) (hp : 0 ≤ n - a - 1 ∧ n ≤ 8 ∧ 0 ≤ a ∧ (∀ z ∈ l, 0 ≤ k - sz13 z) ∧ k ≤ 12 ∧ 0 ≤ i) : P90 r m n a k i l t := by
  subst ht
  obtain ⟨rfl, hm⟩ := hm
  obtain ⟨h1, h2, h3, h4, h5, h6⟩ := hp
  unfold P90
  simp only [eq_self, true_and, and_true, Int.toNat_natCast, Nat.zero_add]
  refine ⟨0, ⟨by simp [sumBy], by simp [sumBy, h6]⟩, fun j hj _ => ?_⟩
  obtain ⟨hj, hpk, hnn⟩ := hj
  by_cases h : (j : Int) < (l.length : Int)
  · have hjl : j < l.length := by omega
    have w : IntKind.i64.wrap ((j : Int) + 1) = ((j + 1 : Nat) : Int) := by rw [w64 (by omega) (by omega)]; simp
    have hz := h4 _ (getD_mem (d := 0) hjl)
    have ed : l.drop j = l.getD j 0 :: l.drop (j + 1) := by
      rw [List.drop_eq_getElem_cons hjl]; simp [hjl]
    have es : sumBy (n - a - 1).toNat k.toNat (l.take (j + 1)) = sumBy (n - a - 1).toNat k.toNat (l.take j) + cnt (n - a - 1).toNat (k.toNat - (sz13 (l.getD j 0)).toNat) := by
      rw [take_snoc' 0 hjl]
      have : ∀ (p : List Int) (z : Int) (N K : Nat), sumBy N K (p ++ [z]) = sumBy N K p + cnt N (K - (sz13 z).toNat) := by
        intro p z N K
        induction p with
        | nil => simp [sumBy]
        | cons x p ih => simp only [List.cons_append, sumBy, ih]; omega
      exact this _ _ _ _
    rw [ed, pickF] at hpk
    simp only [h, decide_true, cond_true]
    generalize sumBy (n - a - 1).toNat k.toNat (l.take j) = s at *
    generalize cnt (n - a - 1).toNat (k.toNat - (sz13 (l.getD j 0)).toNat) = c at *
    refine ⟨⟨by simp, hjl, h1, h2, h3, hz, h5, hnn⟩, ?_⟩
    by_cases hc : i - s < c
    · rw [if_pos hc] at hpk
      simp only [hc, decide_true, cond_true, if_true, hpk, and_self]
    · rw [if_neg hc] at hpk
      simp only [hc, decide_false, cond_false, if_false]
      refine ⟨j + 1, ⟨w, by rw [es]; omega⟩, ⟨by omega, ?_, by rw [es]; omega⟩, by omega⟩
      rw [hpk, es]; congr 1; omega
  · have : j = l.length := by omega
    subst this
    simp only [h, decide_false, cond_false]
    rw [hpk, List.drop_length]
    simp [pickF]

theorem hw91 {x n a k i : Int} {t : List (List Int)} (hw : allP (List.flatMap (fun a : AV => a.t.wf a.x) [⟨.int .i64, x⟩, ⟨.ref .ptr, .ptr 0 (.ref .ptr) [0]⟩, ⟨.ref .ptr, .ptr 1 (.int .i64) [0]⟩, ⟨.ref .ptr, .ptr 2 (.int .i64) [0]⟩, ⟨.ref .ptr, .ptr 3 (.int .i64) [0]⟩, ⟨.ref .ptr, .ptr 4 (.int .i64) [0]⟩] ++ List.flatMap Blk.wf [⟨false, true, .ref .ptr, [.ptr 5 (.arr 9 (.arr 13 (.int .i64))) [0]]⟩, ⟨false, true, .int .i64, [n]⟩, ⟨false, true, .int .i64, [a]⟩, ⟨false, true, .int .i64, [k]⟩, ⟨false, true, .int .i64, [i]⟩, ⟨false, true, .arr 9 (.arr 13 (.int .i64)), [t]⟩])) : i ≤ 9223372036854775807 := by
  simp only [List.flatMap_cons, List.flatMap_nil, Ty.wf, Blk.wf, List.append_nil, List.cons_append, List.nil_append, allP] at hw
  exact (hw.2.2.2.2.2.2.1 i (by simp)).2

end Go.SL.A

/- Functions do what they are held to do. -/
namespace Go.SL.A
open Go Go.SL Go.SL.S
theorem snd91 : Sound Go.Proofs.Tryd.prog G91 := snd87.add ⟨_, Go.Proofs.Tryd.func69, by kernel_rfl, by kernel_rfl⟩ (by
  intro args ins out h hp
  unfold sp91 at h
  split at h
  · rename_i x n a k i t
    cases h
    exact vcFun_ok (C := C91) good snd87 Meth.none mix Go.Proofs.Tryd.func69 (ann91 x n a k i t) (fun hw => by rw [← vc91 x n a k i t]; exact pure91 x n a k i t hp.1 hp.2 (hw91 hw))
  · cases h)

theorem snd90 : Sound Go.Proofs.Tryd.prog G90 := snd91.add ⟨_, Go.Proofs.Tryd.func68, by kernel_rfl, by kernel_rfl⟩ (by
  intro args ins out h hp
  unfold sp90 at h
  split at h
  · rename_i m r l n a k i t
    cases h
    exact vcFun_ok (C := C90) good snd91 Meth.none mix Go.Proofs.Tryd.func68 (ann90 r m n a k i l t) (fun hw => by rw [← vc90 r m n a k i l t]; exact pure90 r m n a k i l t hp.1 hp.2.1 hp.2.2)
  · cases h)

end Go.SL.A

/- Functions and what they are held to do: bound to their code. -/
namespace Go.SL.A
open Go Go.SL Go.SL.S
set_option maxRecDepth 100000
noncomputable def C45 : Ctx := ⟨Go.Proofs.Tryd.prog, D, G90, (fun _ _ => none), fun _ => []⟩
def ann45 (n k i : Int) : Nat → St → Option Ann := fun _ _ => some ⟨Nat, [3, 4, 5, 8, 29], [0, 3, 4], fun a => [(30, .v (.int .i64) (a : Int)), (9, .v (.ref .slice) (.slice 5 (.int .i64) [] 0 a))], fun a => [(1, some ⟨false, true, .int .i64, [(vst n.toNat k i a).1]⟩), (2, some ⟨false, true, .int .i64, [(vst n.toNat k i a).2.1]⟩), (5, some ⟨false, false, .int .i64, (vst n.toNat k i a).2.2⟩)], fun a => a ≤ n.toNat, fun a => n.toNat - a⟩
def out45 (n k i : Int) : COut := ⟨[], .tup [⟨.ref .slice, .slice 0 (.int .i64) [] 0 (vecF n k i).length⟩, ⟨.int .i64, vecE n k i⟩], [], [⟨false, false, .int .i64, vecF n k i⟩]⟩
def sp45 : Spec := fun args ins => match args, ins with
  | [⟨.int .i64, n⟩, ⟨.int .i64, k⟩, ⟨.int .i64, i⟩], [] => some (out45 n k i)
  | _, _ => none
def G45 := addG G90 29 sp45
def P45 (n k i : Int) : Prop :=
  bif !mayF n k then List.length (vecF n k i) = (0 : Nat) ∧ (1 : Int) = vecE n k i ∧ vecF n k i = [] else bif decide (i < (0 : Int)) then (true = false → false = true) ∧ List.length (vecF n k i) = (0 : Nat) ∧ (7 : Int) =
  vecE n k i ∧ vecF n k i = [] else bif decide (countF n k ≤ i) then List.length (vecF n k i) = (0 : Nat) ∧ (7 : Int) = vecE n k i ∧ vecF n k i = [] else ∃ (x : Nat), (((0 : Nat) = (0 : Nat) ∧ (0 : Nat) = (0 : Nat) ∧ (0 :
  Nat) = (0 : Nat) ∧ (0 : Nat) = (0 : Nat) ∧ x = (0 : Nat) ∧ n = n ∧ (0 : Int) = (↑x : Int) ∧ n = n ∧ false = false ∧ k = Prod.fst (vst (Int.toNat n) k i x) ∧ false = false ∧ i = Prod.fst (Prod.snd (vst (Int.toNat n) k i
  x)) ∧ false = false ∧ tabF = tabF ∧ false = false ∧ (0 : Nat) = (0 : Nat) ∧ false = false ∧ Prod.snd (Prod.snd (vst (Int.toNat n) k i x)) = []) ∧ x ≤ Int.toNat n) ∧ ∀ (x : Nat), x ≤ Int.toNat n → (IntKind.min IntKind.i64
  ≤ (↑x : Int) ∧ (↑x : Int) ≤ IntKind.max IntKind.i64 ∧ (∀ (y : Int), List.Mem y [Prod.fst (vst (Int.toNat n) k i x)] → IntKind.min IntKind.i64 ≤ y ∧ y ≤ IntKind.max IntKind.i64) ∧ (∀ (y : Int), List.Mem y [Prod.fst
  (Prod.snd (vst (Int.toNat n) k i x))] → IntKind.min IntKind.i64 ≤ y ∧ y ≤ IntKind.max IntKind.i64) ∧ ∀ (y : Int), List.Mem y (Prod.snd (Prod.snd (vst (Int.toNat n) k i x))) → IntKind.min IntKind.i64 ≤ y ∧ y ≤ IntKind.max
  IntKind.i64) → bif decide ((↑x : Int) < n) then Prod.fst (vst (Int.toNat n) k i x) ≤ (1000000 : Int) ∧ (tabF = tabF ∧ ((2 : Nat) * Int.toNat (Prod.fst (vst (Int.toNat n) k i x)) + (1 : Nat) = List.length (numsF (Int.toNat
  (Prod.fst (vst (Int.toNat n) k i x)))) ∧ (2 : Nat) * Int.toNat (Prod.fst (vst (Int.toNat n) k i x)) + (1 : Nat) ≤ (1000000 : Nat)) ∧ (0 : Int) ≤ n - (↑x : Int) - (1 : Int) ∧ n ≤ (8 : Int) ∧ (0 : Int) ≤ (↑x : Int) ∧ (∀ (z
  : Int), List.Mem z (numsF (Int.toNat (Prod.fst (vst (Int.toNat n) k i x)))) → (0 : Int) ≤ Prod.fst (vst (Int.toNat n) k i x) - sz13 z) ∧ Prod.fst (vst (Int.toNat n) k i x) ≤ (12 : Int) ∧ (0 : Int) ≤ Prod.fst (Prod.snd
  (vst (Int.toNat n) k i x))) ∧ (((0 : Int) ≤ Prod.fst (pickF (Int.toNat (n - (↑x : Int) - (1 : Int))) (Int.toNat (Prod.fst (vst (Int.toNat n) k i x))) (numsF (Int.toNat (Prod.fst (vst (Int.toNat n) k i x)))) (Prod.fst
  (Prod.snd (vst (Int.toNat n) k i x))) (0 : Nat)) ∧ Prod.fst (pickF (Int.toNat (n - (↑x : Int) - (1 : Int))) (Int.toNat (Prod.fst (vst (Int.toNat n) k i x))) (numsF (Int.toNat (Prod.fst (vst (Int.toNat n) k i x))))
  (Prod.fst (Prod.snd (vst (Int.toNat n) k i x))) (0 : Nat)) < (↑((2 : Nat) * Int.toNat (Prod.fst (vst (Int.toNat n) k i x)) + (1 : Nat)) : Int)) ∧ (0 : Nat) + Int.toNat (Prod.fst (pickF (Int.toNat (n - (↑x : Int) - (1 :
  Int))) (Int.toNat (Prod.fst (vst (Int.toNat n) k i x))) (numsF (Int.toNat (Prod.fst (vst (Int.toNat n) k i x)))) (Prod.fst (Prod.snd (vst (Int.toNat n) k i x))) (0 : Nat))) < List.length (numsF (Int.toNat (Prod.fst (vst
  (Int.toNat n) k i x)))) ∧ (1 : Nat) ≤ (1 : Nat) ∧ (0 : Nat) + x = List.length (Prod.snd (Prod.snd (vst (Int.toNat n) k i x))) ∧ (x + List.length (seg (List.getD (numsF (Int.toNat (Prod.fst (vst (Int.toNat n) k i x)))) ((0
  : Nat) + Int.toNat (Prod.fst (pickF (Int.toNat (n - (↑x : Int) - (1 : Int))) (Int.toNat (Prod.fst (vst (Int.toNat n) k i x))) (numsF (Int.toNat (Prod.fst (vst (Int.toNat n) k i x)))) (Prod.fst (Prod.snd (vst (Int.toNat n)
  k i x))) (0 : Nat)))) (0 : Int) :: List.replicate (nat_lit 0) (0 : Int)) (0 : Nat) (1 : Nat))) * (8 : Nat) ≤ (70368744177664 : Nat)) ∧ (((0 : Int) ≤ Prod.fst (pickF (Int.toNat (n - (↑x : Int) - (1 : Int))) (Int.toNat
  (Prod.fst (vst (Int.toNat n) k i x))) (numsF (Int.toNat (Prod.fst (vst (Int.toNat n) k i x)))) (Prod.fst (Prod.snd (vst (Int.toNat n) k i x))) (0 : Nat)) ∧ Prod.fst (pickF (Int.toNat (n - (↑x : Int) - (1 : Int)))
  (Int.toNat (Prod.fst (vst (Int.toNat n) k i x))) (numsF (Int.toNat (Prod.fst (vst (Int.toNat n) k i x)))) (Prod.fst (Prod.snd (vst (Int.toNat n) k i x))) (0 : Nat)) < (↑((2 : Nat) * Int.toNat (Prod.fst (vst (Int.toNat n)
  k i x)) + (1 : Nat)) : Int)) ∧ (0 : Nat) + Int.toNat (Prod.fst (pickF (Int.toNat (n - (↑x : Int) - (1 : Int))) (Int.toNat (Prod.fst (vst (Int.toNat n) k i x))) (numsF (Int.toNat (Prod.fst (vst (Int.toNat n) k i x))))
  (Prod.fst (Prod.snd (vst (Int.toNat n) k i x))) (0 : Nat))) < List.length (numsF (Int.toNat (Prod.fst (vst (Int.toNat n) k i x))))) ∧ ∃ (y : Nat), ((0 : Nat) = (0 : Nat) ∧ (0 : Nat) = (0 : Nat) ∧ (0 : Nat) = (0 : Nat) ∧
  (0 : Nat) = (0 : Nat) ∧ (0 : Nat) = (0 : Nat) ∧ x + List.length (seg (List.getD (numsF (Int.toNat (Prod.fst (vst (Int.toNat n) k i x)))) ((0 : Nat) + Int.toNat (Prod.fst (pickF (Int.toNat (n - (↑x : Int) - (1 : Int)))
  (Int.toNat (Prod.fst (vst (Int.toNat n) k i x))) (numsF (Int.toNat (Prod.fst (vst (Int.toNat n) k i x)))) (Prod.fst (Prod.snd (vst (Int.toNat n) k i x))) (0 : Nat)))) (0 : Int) :: List.replicate (nat_lit 0) (0 : Int)) (0
  : Nat) (1 : Nat)) = y ∧ n = n ∧ IntKind.wrap IntKind.i64 ((↑x : Int) + (1 : Int)) = (↑y : Int) ∧ n = n ∧ false = false ∧ IntKind.wrap IntKind.i64 (Prod.fst (vst (Int.toNat n) k i x) - sz13 (List.getD (numsF (Int.toNat
  (Prod.fst (vst (Int.toNat n) k i x)))) ((0 : Nat) + Int.toNat (Prod.fst (pickF (Int.toNat (n - (↑x : Int) - (1 : Int))) (Int.toNat (Prod.fst (vst (Int.toNat n) k i x))) (numsF (Int.toNat (Prod.fst (vst (Int.toNat n) k i
  x)))) (Prod.fst (Prod.snd (vst (Int.toNat n) k i x))) (0 : Nat)))) (0 : Int))) = Prod.fst (vst (Int.toNat n) k i y) ∧ false = false ∧ Prod.snd (pickF (Int.toNat (n - (↑x : Int) - (1 : Int))) (Int.toNat (Prod.fst (vst
  (Int.toNat n) k i x))) (numsF (Int.toNat (Prod.fst (vst (Int.toNat n) k i x)))) (Prod.fst (Prod.snd (vst (Int.toNat n) k i x))) (0 : Nat)) = Prod.fst (Prod.snd (vst (Int.toNat n) k i y)) ∧ false = false ∧ tabF = tabF ∧
  false = false ∧ (0 : Nat) = (0 : Nat) ∧ false = false ∧ List.append (List.drop (0 : Nat) (Prod.snd (Prod.snd (vst (Int.toNat n) k i x)))) (seg (List.getD (numsF (Int.toNat (Prod.fst (vst (Int.toNat n) k i x)))) ((0 : Nat)
  + Int.toNat (Prod.fst (pickF (Int.toNat (n - (↑x : Int) - (1 : Int))) (Int.toNat (Prod.fst (vst (Int.toNat n) k i x))) (numsF (Int.toNat (Prod.fst (vst (Int.toNat n) k i x)))) (Prod.fst (Prod.snd (vst (Int.toNat n) k i
  x))) (0 : Nat)))) (0 : Int) :: List.replicate (nat_lit 0) (0 : Int)) (0 : Nat) (1 : Nat)) = Prod.snd (Prod.snd (vst (Int.toNat n) k i y)) ∧ false = false) ∧ y ≤ Int.toNat n ∧ Int.toNat n - y < Int.toNat n - x else (0 :
  Nat) = (0 : Nat) ∧ x = List.length (vecF n k i) ∧ (0 : Int) = vecE n k i ∧ Prod.snd (Prod.snd (vst (Int.toNat n) k i x)) = vecF n k i ∧ false = false
theorem vc45 (n k i : Int) : P45 n k i = vcFun C45 (ann45 n k i) Go.Proofs.Tryd.f29 [⟨.int .i64, n⟩, ⟨.int .i64, k⟩, ⟨.int .i64, i⟩] [] (out45 n k i) := by kernel_rfl

noncomputable def C42 : Ctx := ⟨Go.Proofs.Tryd.prog, D, G45, (fun _ _ => none), fun _ => []⟩
def ann42 (k : Int) : Nat → St → Option Ann := fun _ _ => some ⟨Nat × Int, [], [], fun x => [(3, .v (.int .i64) (x.1 : Int)), (4, .v (.int .i64) x.2)], fun _ => [], fun x => x.1 + bitLen x.2.toNat = bitLen (countF 4 k - 1).toNat ∧ x.2 ≤ 10000000000, fun x => x.2.toNat⟩
def out42 (k : Int) : COut := ⟨[], .v (.int .i64) (bitsF k), [], []⟩
def sp42 : Spec := fun args ins => match args, ins with
  | [⟨.int .i64, k⟩], [] => some (out42 k)
  | _, _ => none
def G42 := addG G45 126 sp42
def P42 (k : Int) : Prop :=
  ∃ (x : Nat × Int), (((0 : Int) = (↑(Prod.fst x) : Int) ∧ IntKind.wrap IntKind.i64 (countF (4 : Int) k - (1 : Int)) = Prod.snd x) ∧ Prod.fst x + bitLen (Int.toNat (Prod.snd x)) = bitLen (Int.toNat (countF (4 : Int) k - (1
  : Int))) ∧ Prod.snd x ≤ (10000000000 : Int)) ∧ ∀ (x : Nat × Int), Prod.fst x + bitLen (Int.toNat (Prod.snd x)) = bitLen (Int.toNat (countF (4 : Int) k - (1 : Int))) ∧ Prod.snd x ≤ (10000000000 : Int) → IntKind.min
  IntKind.i64 ≤ (↑(Prod.fst x) : Int) ∧ (↑(Prod.fst x) : Int) ≤ IntKind.max IntKind.i64 ∧ IntKind.min IntKind.i64 ≤ Prod.snd x ∧ Prod.snd x ≤ IntKind.max IntKind.i64 → bif decide ((0 : Int) < Prod.snd x) then (0 : Int) ≤ (1
  : Int) ∧ ∃ (y : Nat × Int), (IntKind.wrap IntKind.i64 ((↑(Prod.fst x) : Int) + (1 : Int)) = (↑(Prod.fst y) : Int) ∧ ishr IntKind.i64 (Prod.snd x) (1 : Int) = Prod.snd y) ∧ (Prod.fst y + bitLen (Int.toNat (Prod.snd y)) =
  bitLen (Int.toNat (countF (4 : Int) k - (1 : Int))) ∧ Prod.snd y ≤ (10000000000 : Int)) ∧ Int.toNat (Prod.snd y) < Int.toNat (Prod.snd x) else (↑(Prod.fst x) : Int) = bitsF k
theorem vc42 (k : Int) : P42 k = vcFun C42 (ann42 k) Go.Proofs.Tryd.f126 [⟨.int .i64, k⟩] [] (out42 k) := by kernel_rfl

end Go.SL.A

/- Vectors of pulses: plain laws. -/
namespace Go.SL.A
open Go Go.SL Go.SL.S

theorem mem_numsF {z : Int} : ∀ {K : Nat}, z ∈ numsF K ↔ -(K : Int) ≤ z ∧ z ≤ (K : Int)
  | 0 => by simp [numsF]; omega
  | K + 1 => by
    simp only [numsF, List.mem_append, mem_numsF, List.mem_cons, List.not_mem_nil, or_false]
    omega

theorem sz13_in {z : Int} {K : Nat} (hK : K ≤ 12) (h : z ∈ numsF K) : 0 ≤ sz13 z ∧ sz13 z ≤ K ∧ (sz13 z = z ∨ sz13 z = -z) := by
  have := mem_numsF.1 h
  unfold sz13
  rw [if_neg (by omega)]; omega

theorem sumBy_append (n K : Nat) : ∀ p q : List Int, sumBy n K (p ++ q) = sumBy n K p + sumBy n K q
  | [], q => by simp [sumBy]
  | x :: p, q => by simp only [List.cons_append, sumBy, sumBy_append n K p q]; omega

theorem sumBy_nn (n K : Nat) : ∀ l : List Int, 0 ≤ sumBy n K l
  | [] => by simp [sumBy]
  | x :: l => by have := sumBy_nn n K l; have := (cnt_le n (K - (sz13 x).toNat)).1; simp only [sumBy]; omega

def revTo (f : Nat → Int) (K : Nat) : Nat → Int
  | 0 => 0
  | J + 1 => revTo f K J + f (K - (J + 1))

theorem revTo_sum (f : Nat → Int) (K : Nat) : ∀ J, J ≤ K → sumTo f K = sumTo f (K - J) + revTo f K J
  | 0, _ => by simp [revTo]
  | J + 1, h => by
    have ih := revTo_sum f K J (by omega)
    have e : K - J = (K - (J + 1)) + 1 := by omega
    rw [e, sumTo] at ih
    rw [revTo]; omega

theorem sz13_small {z : Int} (h1 : -12 ≤ z) (h2 : z ≤ 12) : sz13 z = max z (-z) := by
  unfold sz13; rw [if_neg (by omega)]

theorem sumBy_nums (n K : Nat) (hK : K ≤ 12) : ∀ J, J ≤ K → sumBy n K (numsF J) = cnt n K + 2 * revTo (cnt n) K J
  | 0, _ => by
    have e : sz13 0 = 0 := by decide
    simp [numsF, sumBy, revTo, e]
  | J + 1, h => by
    rw [numsF, sumBy_append, sumBy_nums n K hK J (by omega), revTo]
    have e1 : (sz13 ((J + 1 : Nat) : Int)).toNat = J + 1 := by rw [sz13_small (by omega) (by omega)]; omega
    have e2 : (sz13 (-((J + 1 : Nat) : Int))).toNat = J + 1 := by rw [sz13_small (by omega) (by omega)]; omega
    simp only [sumBy, e1, e2]; omega

/-- Of n + 1 numbers there are as many vectors as of n numbers behind each first one. -/
theorem sumBy_all {n K : Nat} (hK : K ≤ 12) : sumBy n K (numsF K) = cnt (n + 1) K := by
  rw [sumBy_nums n K hK K (Nat.le_refl _), cnt_sum, revTo_sum (cnt n) K K (Nat.le_refl _)]
  simp [sumTo]

theorem pick_spec (n K : Nat) : ∀ (l : List Int) (i : Int) (j : Nat), 0 ≤ i → i < sumBy n K l →
    ∃ p, p < l.length ∧ pickF n K l i j = (((j + p : Nat) : Int), i - sumBy n K (l.take p)) ∧ 0 ≤ i - sumBy n K (l.take p) ∧ i - sumBy n K (l.take p) < cnt n (K - (sz13 (l.getD p 0)).toNat)
  | [], i, j, h0, h => by simp [sumBy] at h; omega
  | z :: l, i, j, h0, h => by
    rw [pickF]
    by_cases hc : i < cnt n (K - (sz13 z).toNat)
    · rw [if_pos hc]
      exact ⟨0, by simp, by simp [sumBy], by simpa [sumBy] using h0, by simpa [sumBy] using hc⟩
    · rw [if_neg hc]
      simp only [sumBy] at h
      obtain ⟨p, h1, h2, h3, h4⟩ := pick_spec n K l (i - cnt n (K - (sz13 z).toNat)) (j + 1) (by omega) (by omega)
      refine ⟨p + 1, by simp; omega, ?_, ?_, ?_⟩
      · rw [h2, List.take_succ_cons, sumBy]
        congr 1
        · congr 1; omega
        · omega
      · rw [List.take_succ_cons, sumBy]; omega
      · rw [List.take_succ_cons, sumBy, List.getD_cons_succ]; omega

/-- What holds while a vector is found. -/
structure VI (n a : Nat) (k : Int) (s : Int × Int × List Int) : Prop where
  k0 : 0 ≤ s.1
  k1 : s.1 ≤ 12
  i0 : 0 ≤ s.2.1
  i1 : s.2.1 < cnt (n - a) s.1.toNat
  len : s.2.2.length = a
  sum : sumSz s.2.2 + s.1 = k
  rng : ∀ z ∈ s.2.2, -12 ≤ z ∧ z ≤ 12

theorem vst_ok {n : Nat} {k i : Int} (hn : n ≤ 8) (hk0 : 0 ≤ k) (hk : k ≤ 12) (hi : 0 ≤ i) (hi2 : i < cnt n k.toNat) : ∀ a, a ≤ n → VI n a k (vst n k i a) ∧
    (a < n → ∃ p : Nat, p < (numsF (vst n k i a).1.toNat).length ∧ pickF (n - a - 1) (vst n k i a).1.toNat (numsF (vst n k i a).1.toNat) (vst n k i a).2.1 0 = ((p : Int), (vst n k i a).2.1 - sumBy (n - a - 1) (vst n k i a).1.toNat ((numsF (vst n k i a).1.toNat).take p)) ∧
      0 ≤ (vst n k i a).2.1 - sumBy (n - a - 1) (vst n k i a).1.toNat ((numsF (vst n k i a).1.toNat).take p) ∧
      (vst n k i a).2.1 - sumBy (n - a - 1) (vst n k i a).1.toNat ((numsF (vst n k i a).1.toNat).take p) < cnt (n - a - 1) ((vst n k i a).1.toNat - (sz13 ((numsF (vst n k i a).1.toNat).getD p 0)).toNat)) := by
  have next : ∀ a, a < n → VI n a k (vst n k i a) → ∃ p : Nat, p < (numsF (vst n k i a).1.toNat).length ∧ pickF (n - a - 1) (vst n k i a).1.toNat (numsF (vst n k i a).1.toNat) (vst n k i a).2.1 0 = ((p : Int), (vst n k i a).2.1 - sumBy (n - a - 1) (vst n k i a).1.toNat ((numsF (vst n k i a).1.toNat).take p)) ∧
      0 ≤ (vst n k i a).2.1 - sumBy (n - a - 1) (vst n k i a).1.toNat ((numsF (vst n k i a).1.toNat).take p) ∧
      (vst n k i a).2.1 - sumBy (n - a - 1) (vst n k i a).1.toNat ((numsF (vst n k i a).1.toNat).take p) < cnt (n - a - 1) ((vst n k i a).1.toNat - (sz13 ((numsF (vst n k i a).1.toNat).getD p 0)).toNat) := by
    intro a ha h
    have hs : (vst n k i a).2.1 < sumBy (n - a - 1) (vst n k i a).1.toNat (numsF (vst n k i a).1.toNat) := by
      rw [sumBy_all (by have := h.k1; omega), show n - a - 1 + 1 = n - a by omega]; exact h.i1
    obtain ⟨p, h1, h2, h3, h4⟩ := pick_spec (n - a - 1) (vst n k i a).1.toNat _ _ 0 h.i0 hs
    exact ⟨p, h1, by rw [h2]; simp, h3, h4⟩
  intro a
  induction a with
  | zero =>
    intro _
    have h0 : VI n 0 k (vst n k i 0) := ⟨hk0, hk, hi, hi2, rfl, by simp [vst, sumSz], fun z hz => by simp [vst] at hz⟩
    exact ⟨h0, fun h => next 0 h h0⟩
  | succ a ih =>
    intro ha
    obtain ⟨h, hx⟩ := ih (by omega)
    obtain ⟨p, h1, h2, h3, h4⟩ := hx (by omega)
    have hv : VI n (a + 1) k (vst n k i (a + 1)) := by
      rw [vst]
      generalize vst n k i a = s at *
      rw [h2]
      simp only [Int.toNat_natCast]
      have hm := getD_mem (d := 0) h1
      have hz := sz13_in (by have := h.k1; omega) hm
      have hz2 := mem_numsF.1 hm
      have k0 := h.k0
      have k1 := h.k1
      generalize (numsF s.1.toNat).getD p 0 = z at *
      refine ⟨by simp only; omega, by simp only; omega, h3, ?_, by simp [h.len], ?_, fun y hy => ?_⟩
      · show _ < cnt (n - (a + 1)) (s.1 - sz13 z).toNat
        rw [show n - (a + 1) = n - a - 1 by omega, show (s.1 - sz13 z).toNat = s.1.toNat - (sz13 z).toNat by omega]; exact h4
      · show sumSz (s.2.2 ++ [z]) + (s.1 - sz13 z) = k
        rw [sumSz_append]; have := h.sum; simp only [sumSz]; omega
      · rcases List.mem_append.1 hy with hy | hy
        · exact h.rng y hy
        · rw [List.mem_singleton.1 hy]; omega
    exact ⟨hv, fun h => next (a + 1) h hv⟩

end Go.SL.A

namespace Go.SL.A
open Go Go.SL Go.SL.S

theorem pure45 (n k i : Int) : P45 n k i := by
  unfold P45
  cases hm : mayF n k with
  | false =>
    have e1 : vecF n k i = [] := by unfold vecF; rw [if_neg (by simp [hm])]
    have e2 : vecE n k i = 1 := by unfold vecE; simp [hm]
    simp [e1, e2]
  | true =>
    have hb : 0 ≤ n ∧ n ≤ 8 ∧ 0 ≤ k ∧ k ≤ 12 := by simpa [mayF] using hm
    have hc : countF n k = cnt n.toNat k.toNat := by unfold countF; simp [hm]
    simp only [Bool.not_true, cond_false]
    by_cases hi : i < 0
    · have e1 : vecF n k i = [] := by unfold vecF; rw [if_neg (by omega)]
      have e2 : vecE n k i = 7 := by unfold vecE; rw [hm, if_pos rfl, if_neg (by omega)]
      simp [e1, e2, hi]
    by_cases hi2 : countF n k ≤ i
    · have e1 : vecF n k i = [] := by unfold vecF; rw [if_neg (by omega)]
      have e2 : vecE n k i = 7 := by unfold vecE; rw [hm, if_pos rfl, if_neg (by omega)]
      simp [e1, e2, hi, hi2]
    have e1 : vecF n k i = (vst n.toNat k i n.toNat).2.2 := by unfold vecF; rw [if_pos ⟨hm, by omega, by omega⟩]
    have e2 : vecE n k i = 0 := by unfold vecE; rw [hm, if_pos rfl, if_pos (by omega)]
    simp only [hi, hi2, decide_false, cond_false, e1, e2, eq_self, true_and, and_true, Nat.zero_add]
    rw [hc] at hi2
    have hv := vst_ok (n := n.toNat) (k := k) (i := i) (by omega) hb.2.2.1 hb.2.2.2 (by omega) (by omega)
    refine ⟨0, ⟨⟨rfl, rfl, rfl, rfl, rfl⟩, by omega⟩, fun a ha _ => ?_⟩
    obtain ⟨h, hx⟩ := hv a ha
    clear hv
    by_cases hax : (a : Int) < n
    · have han : a < n.toNat := by clear hx; omega
      obtain ⟨p, p1, p2, p3, p4⟩ := hx han
      clear hx
      simp only [hax, decide_true, cond_true]
      have en : (n - (a : Int) - 1).toNat = n.toNat - a - 1 := by omega
      have e3 : vst n.toNat k i (a + 1) = ((vst n.toNat k i a).1 - sz13 ((numsF (vst n.toNat k i a).1.toNat).getD (pickF (n.toNat - a - 1) (vst n.toNat k i a).1.toNat (numsF (vst n.toNat k i a).1.toNat) (vst n.toNat k i a).2.1 0).1.toNat 0), (pickF (n.toNat - a - 1) (vst n.toNat k i a).1.toNat (numsF (vst n.toNat k i a).1.toNat) (vst n.toNat k i a).2.1 0).2, (vst n.toNat k i a).2.2 ++ [(numsF (vst n.toNat k i a).1.toNat).getD (pickF (n.toNat - a - 1) (vst n.toNat k i a).1.toNat (numsF (vst n.toNat k i a).1.toNat) (vst n.toNat k i a).2.1 0).1.toNat 0]) := rfl
      rw [en]
      generalize vst n.toNat k i a = s at *
      rw [p2] at e3 ⊢
      simp only [Int.toNat_natCast] at e3 ⊢
      have w : IntKind.i64.wrap ((a : Int) + 1) = ((a + 1 : Nat) : Int) := by rw [w64 (by omega) (by omega)]; simp
      have hm := getD_mem (d := 0) p1
      have k0 := h.k0
      have k1 := h.k1
      have i0 := h.i0
      have hl := numsF_len s.1.toNat
      have hz := sz13_in (by omega) hm
      have w2 : IntKind.i64.wrap (s.1 - sz13 ((numsF s.1.toNat).getD p 0)) = s.1 - sz13 ((numsF s.1.toNat).getD p 0) := w64 (by omega) (by omega)
      have es : ∀ v : Int, seg (v :: List.replicate 0 (0 : Int)) 0 1 = [v] := fun v => rfl
      simp only [es, List.length_singleton, w, w2]
      refine ⟨by omega, ⟨⟨by omega, by omega⟩, by omega, by omega, by omega, fun z hz => ?_, k1, i0⟩, ⟨by omega, p1, by omega, by rw [h.len], by omega⟩, ⟨by omega, p1⟩, a + 1, ⟨rfl, rfl, ?_, ?_, ?_⟩, by omega, by omega⟩
      · have := sz13_in (by omega) hz; omega
      · rw [e3]
      · rw [e3]
      · rw [e3]; rfl
    · have : a = n.toNat := by clear hx; omega
      subst this
      simp only [hax, decide_false, cond_false]
      exact ⟨h.len.symm, trivial⟩

theorem ishr1 (l : Int) : ishr .i64 l 1 = l / 2 := by
  unfold ishr
  simp only [show (2 : Int) ^ (min (1 : Int).toNat IntKind.i64.bits) = 2 by decide]
  exact Int.fdiv_eq_ediv_of_nonneg l (by decide)

theorem bitLen_half {m : Nat} (h : 0 < m) : bitLen m = bitLen (m / 2) + 1 := by
  unfold bitLen
  rw [if_neg (by omega)]
  by_cases h2 : m / 2 = 0
  · rw [if_pos h2]
    have : m = 1 := by omega
    subst this; decide
  · rw [if_neg h2, Nat.log2_def]
    rw [if_pos (by omega)]

theorem bitLen_le {m : Nat} (h : m ≤ 10000000000) : bitLen m ≤ 10000000000 := by
  unfold bitLen
  split
  · omega
  · have := Nat.log2_le_self m
    have : m.log2 < m := by
      rcases Nat.lt_or_ge m.log2 m with h | h
      · exact h
      · exfalso
        have h3 := Nat.lt_two_pow_self (n := m)
        have h4 := Nat.log2_self_le (n := m) (by omega)
        have h5 : 2 ^ m ≤ 2 ^ m.log2 := Nat.pow_le_pow_right (by decide) h
        omega
    omega

theorem countF_fits (n k : Int) : 0 ≤ countF n k ∧ countF n k ≤ 3486784401 := by
  unfold countF
  split
  · rename_i hm
    have hb : 0 ≤ n ∧ n ≤ 8 ∧ 0 ≤ k ∧ k ≤ 12 := by simpa [mayF] using hm
    exact cnt_fits (by omega) (by omega)
  · omega

theorem pure42 (k : Int) : P42 k := by
  unfold P42
  have hq : bitsF k = (bitLen (countF 4 k - 1).toNat : Nat) := rfl
  rw [hq]
  have hc := countF_fits 4 k
  generalize countF 4 k = c at *
  have w : IntKind.i64.wrap (c - 1) = c - 1 := w64 (by omega) (by omega)
  rw [w]
  refine ⟨(0, c - 1), ⟨by simp, by simp, by simp; omega⟩, fun x hx _ => ?_⟩
  obtain ⟨m, l⟩ := x
  obtain ⟨h1, h2⟩ := hx
  simp only at h1 h2 ⊢
  have hb := bitLen_le (m := (c - 1).toNat) (by omega)
  by_cases h : 0 < l
  · simp only [h, decide_true, cond_true]
    have w1 : IntKind.i64.wrap ((m : Int) + 1) = ((m + 1 : Nat) : Int) := by rw [w64 (by omega) (by omega)]; simp
    refine ⟨by decide, (m + 1, l / 2), ⟨w1, ishr1 l⟩, ⟨?_, by simp only; omega⟩, by simp only; omega⟩
    have := bitLen_half (m := l.toNat) (by omega)
    simp only
    rw [show (l / 2).toNat = l.toNat / 2 by omega]; omega
  · simp only [h, decide_false, cond_false]
    have e : bitLen l.toNat = 0 := by rw [show l.toNat = 0 by omega]; rfl
    omega

end Go.SL.A

/- Vectors' numbers: plain laws; the code of Index. -/
namespace Go.SL.A
open Go Go.SL Go.SL.S

theorem idx_mem {v : Int} : ∀ {l : List Int} (i : Nat), v ∈ l → ∃ p, p < l.length ∧ idxFrom v l i = ((i + p : Nat) : Int) ∧ l.getD p 0 = v
  | [], i, h => by cases h
  | x :: l, i, h => by
    by_cases e : v = x
    · subst e
      exact ⟨0, by simp, by simp [idxFrom], by simp⟩
    · have h2 : v ∈ l := by rcases List.mem_cons.1 h with h | h; exact absurd h e; exact h
      obtain ⟨p, h1, h3, h4⟩ := idx_mem (i + 1) h2
      refine ⟨p + 1, by simp; omega, ?_, by rw [List.getD_cons_succ]; exact h4⟩
      rw [idxFrom, if_neg e, h3]; congr 1; omega

theorem sumBy_take_succ (n K : Nat) {l : List Int} {p : Nat} (h : p < l.length) : sumBy n K (l.take (p + 1)) = sumBy n K (l.take p) + cnt n (K - (sz13 (l.getD p 0)).toNat) := by
  rw [take_snoc' 0 h, sumBy_append]; simp [sumBy]

theorem sumBy_take_le (n K : Nat) (l : List Int) (p : Nat) : sumBy n K (l.take p) ≤ sumBy n K l := by
  have h := sumBy_append n K (l.take p) (l.drop p)
  rw [List.take_append_drop] at h
  have := sumBy_nn n K (l.drop p); omega

theorem sz13_le12 {x : Int} (h : sz13 x ≤ 12) : -12 ≤ x ∧ x ≤ 12 ∧ (sz13 x = x ∨ sz13 x = -x) := by
  unfold sz13 at *
  split at h
  · omega
  · rename_i h1; rw [if_neg h1]; omega

/-- A first number, and those that follow. -/
theorem numF_cons {x : Int} {ys : List Int} (h : sumSz (x :: ys) ≤ 12) : ∃ p : Nat, p < (numsF (sumSz (x :: ys)).toNat).length ∧ idxF (numsF (sumSz (x :: ys)).toNat) x = (p : Int) ∧ (numsF (sumSz (x :: ys)).toNat).getD p 0 = x ∧
    numF (x :: ys) = sumBy ys.length (sumSz (x :: ys)).toNat ((numsF (sumSz (x :: ys)).toNat).take p) + numF ys ∧ (sumSz (x :: ys)).toNat - (sz13 x).toNat = (sumSz ys).toNat := by
  have h1 := sumSz_le ys
  have h2 := sz13_le x
  have e : sumSz (x :: ys) = sz13 x + sumSz ys := rfl
  have h3 := sz13_le12 (x := x) (by omega)
  have hm : x ∈ numsF (sumSz (x :: ys)).toNat := mem_numsF.2 (by omega)
  obtain ⟨p, p1, p2, p3⟩ := idx_mem 0 hm
  rw [Nat.zero_add] at p2
  refine ⟨p, p1, p2, p3, ?_, by omega⟩
  rw [numF, show idxF (numsF (sumSz (x :: ys)).toNat) x = (p : Int) from p2, Int.toNat_natCast]

theorem numF_lt : ∀ {y : List Int}, sumSz y ≤ 12 → 0 ≤ numF y ∧ numF y < cnt y.length (sumSz y).toNat
  | [], _ => by simp [numF, sumSz, cnt, cnt0]
  | x :: ys, h => by
    have e : sumSz (x :: ys) = sz13 x + sumSz ys := rfl
    have h1 := sumSz_le ys
    have h2 := sz13_le x
    obtain ⟨p, p1, p2, p3, p4, p5⟩ := numF_cons h
    obtain ⟨i1, i2⟩ := numF_lt (y := ys) (by omega)
    have s1 := sumBy_take_succ ys.length (sumSz (x :: ys)).toNat p1
    rw [p3, p5] at s1
    have s2 := sumBy_take_le ys.length (sumSz (x :: ys)).toNat (numsF (sumSz (x :: ys)).toNat) (p + 1)
    rw [sumBy_all (by omega)] at s2
    have s3 := sumBy_nn ys.length (sumSz (x :: ys)).toNat ((numsF (sumSz (x :: ys)).toNat).take p)
    rw [p4, List.length_cons]
    omega

theorem sumSz_drop (y : List Int) (a : Nat) : sumSz (y.drop a) ≤ sumSz y := by
  have h := sumSz_append (y.take a) (y.drop a)
  rw [List.take_append_drop] at h
  have := (sumSz_le (y.take a)).1; omega

theorem numF_drop_le {y : List Int} (h : sumSz y ≤ 12) : ∀ a, numF (y.drop a) ≤ numF y := by
  induction y with
  | nil => intro a; simp
  | cons x ys ih =>
    intro a
    have e : sumSz (x :: ys) = sz13 x + sumSz ys := rfl
    have h1 := sumSz_le ys
    have h2 := sz13_le x
    cases a with
    | zero => simp
    | succ a =>
      obtain ⟨p, p1, p2, p3, p4, p5⟩ := numF_cons h
      have := ih (by omega) a
      have := sumBy_nn ys.length (sumSz (x :: ys)).toNat ((numsF (sumSz (x :: ys)).toNat).take p)
      rw [List.drop_succ_cons, p4]; omega

end Go.SL.A

/- Functions do what they are held to do. -/
namespace Go.SL.A
open Go Go.SL Go.SL.S
theorem snd45 : Sound Go.Proofs.Tryd.prog G45 := snd90.add ⟨_, Go.Proofs.Tryd.func29, by kernel_rfl, by kernel_rfl⟩ (by
  intro args ins out h hp
  unfold sp45 at h
  split at h
  · rename_i n k i
    cases h
    exact vcFun_ok (C := C45) good snd90 Meth.none mix Go.Proofs.Tryd.func29 (ann45 n k i) (fun hw => by rw [← vc45 n k i]; exact pure45 n k i)
  · cases h)

theorem snd42 : Sound Go.Proofs.Tryd.prog G42 := snd45.add ⟨_, Go.Proofs.Tryd.func126, by kernel_rfl, by kernel_rfl⟩ (by
  intro args ins out h hp
  unfold sp42 at h
  split at h
  · rename_i k
    cases h
    exact vcFun_ok (C := C42) good snd45 Meth.none mix Go.Proofs.Tryd.func126 (ann42 k) (fun hw => by rw [← vc42 k]; exact pure42 k)
  · cases h)

end Go.SL.A

/- Plain functions of the statements on pvq. -/
namespace Go.SL.S
open Go
def rankF (x : Int) : Int := if 0 < x then IntKind.i64.wrap (IntKind.i64.wrap (2 * x) - 1) else IntKind.i64.wrap (-2 * x)
end Go.SL.S

/- Functions and what they are held to do: bound to their code. -/
namespace Go.SL.A
open Go Go.SL Go.SL.S
set_option maxRecDepth 100000
end Go.SL.A

namespace Go.SL.A
open Go Go.SL Go.SL.S
end Go.SL.A

/- Functions do what they are held to do. -/
namespace Go.SL.A
open Go Go.SL Go.SL.S
end Go.SL.A

/- Vectors and their numbers: plain laws. -/
namespace Go.SL.A
open Go Go.SL Go.SL.S

theorem numsF_get : ∀ {K p : Nat}, p < 2 * K + 1 → (numsF K).getD p 0 = if p % 2 = 1 then (((p + 1) / 2 : Nat) : Int) else -((p / 2 : Nat) : Int)
  | 0, p, h => by
    have : p = 0 := by omega
    subst this; rfl
  | K + 1, p, h => by
    have hl := numsF_len K
    rw [numsF, List.getD_eq_getElem?_getD]
    by_cases h1 : p < 2 * K + 1
    · rw [List.getElem?_append_left (by omega), ← List.getD_eq_getElem?_getD]; exact numsF_get h1
    · rw [List.getElem?_append_right (by omega), hl]
      have h2 : p = 2 * K + 1 ∨ p = 2 * K + 2 := by omega
      rcases h2 with rfl | rfl
      · rw [Nat.sub_self, if_pos (by omega)]
        simp <;> omega
      · rw [show 2 * K + 2 - (2 * K + 1) = 1 by omega, if_neg (by omega)]
        simp <;> omega

/-- Which place a number has among 0, 1, -1, 2, .. -/
def rk (x : Int) : Nat := if 0 < x then (2 * x - 1).toNat else (-2 * x).toNat

theorem rk_get {K p : Nat} (h : p < 2 * K + 1) : rk ((numsF K).getD p 0) = p := by
  rw [numsF_get h]; unfold rk
  split
  · rw [if_pos (by omega)]; omega
  · rw [if_neg (by omega)]; omega

theorem idx_from {v : Int} : ∀ {l : List Int} {p : Nat} (i : Nat), p < l.length → l.getD p 0 = v → (∀ q, q < p → l.getD q 0 ≠ v) → idxFrom v l i = ((i + p : Nat) : Int)
  | [], p, i, h, _, _ => by simp at h
  | x :: l, 0, i, h, hv, _ => by
    have : x = v := by simpa using hv
    subst this; simp [idxFrom]
  | x :: l, p + 1, i, h, hv, hq => by
    have h0 : x ≠ v := by have := hq 0 (by omega); simpa using this
    rw [idxFrom, if_neg (fun e => h0 e.symm), idx_from (i + 1) (p := p) (by simpa using h) (by simpa using hv) (fun q hlt => by have := hq (q + 1) (by omega); simpa using this)]
    congr 1; omega

theorem idx_nums {K p : Nat} (h : p < 2 * K + 1) : idxF (numsF K) ((numsF K).getD p 0) = (p : Int) := by
  have hl := numsF_len K
  have := idx_from (v := (numsF K).getD p 0) 0 (by omega) rfl (fun q hq e => by
    have h1 := rk_get (K := K) (p := q) (by omega)
    have h2 := rk_get h
    rw [e] at h1; omega)
  rw [Nat.zero_add] at this; exact this

theorem sumBy_take_mono (n K : Nat) (l : List Int) {p q : Nat} (h : p ≤ q) : sumBy n K (l.take p) ≤ sumBy n K (l.take q) := by
  have := sumBy_take_le n K (l.take q) p
  rwa [List.take_take, Nat.min_eq_left h] at this

theorem pick_at {n K : Nat} {l : List Int} {i : Int} {p : Nat} (hp : p < l.length) (h0 : sumBy n K (l.take p) ≤ i) (h1 : i < sumBy n K (l.take (p + 1))) : pickF n K l i 0 = ((p : Int), i - sumBy n K (l.take p)) := by
  have hle := sumBy_take_le n K l (p + 1)
  have hnn := sumBy_nn n K (l.take p)
  obtain ⟨q, q1, q2, q3, q4⟩ := pick_spec n K l i 0 (by omega) (by omega)
  have hs := sumBy_take_succ n K q1
  have : q = p := by
    rcases Nat.lt_trichotomy q p with h | h | h
    · have := sumBy_take_mono n K l (show q + 1 ≤ p by omega); omega
    · exact h
    · have := sumBy_take_mono n K l (show p + 1 ≤ q by omega); omega
  subst this
  rw [q2, Nat.zero_add]

/-- The first number, and what is left behind it. -/
theorem vst_cons (n : Nat) (k i : Int) : ∀ a, vst (n + 1) k i (a + 1) = ((vst n (vst (n + 1) k i 1).1 (vst (n + 1) k i 1).2.1 a).1, (vst n (vst (n + 1) k i 1).1 (vst (n + 1) k i 1).2.1 a).2.1, (vst (n + 1) k i 1).2.2 ++ (vst n (vst (n + 1) k i 1).1 (vst (n + 1) k i 1).2.1 a).2.2)
  | 0 => by
    show vst (n + 1) k i 1 = _
    simp only [vst, List.append_nil]
  | a + 1 => by
    have ih := vst_cons n k i a
    rw [show vst (n + 1) k i (a + 1 + 1) = (fun s : Int × Int × List Int => (s.1 - sz13 ((numsF s.1.toNat).getD (pickF (n + 1 - (a + 1) - 1) s.1.toNat (numsF s.1.toNat) s.2.1 0).1.toNat 0), (pickF (n + 1 - (a + 1) - 1) s.1.toNat (numsF s.1.toNat) s.2.1 0).2, s.2.2 ++ [(numsF s.1.toNat).getD (pickF (n + 1 - (a + 1) - 1) s.1.toNat (numsF s.1.toNat) s.2.1 0).1.toNat 0])) (vst (n + 1) k i (a + 1)) from rfl, ih]
    generalize vst (n + 1) k i 1 = t
    rw [show vst n t.1 t.2.1 (a + 1) = (fun s : Int × Int × List Int => (s.1 - sz13 ((numsF s.1.toNat).getD (pickF (n - a - 1) s.1.toNat (numsF s.1.toNat) s.2.1 0).1.toNat 0), (pickF (n - a - 1) s.1.toNat (numsF s.1.toNat) s.2.1 0).2, s.2.2 ++ [(numsF s.1.toNat).getD (pickF (n - a - 1) s.1.toNat (numsF s.1.toNat) s.2.1 0).1.toNat 0])) (vst n t.1 t.2.1 a) from rfl]
    rw [show n + 1 - (a + 1) - 1 = n - a - 1 by omega]
    simp only [List.append_assoc]

/-- A vector by its first number's place. -/
theorem vst_first {n : Nat} {k i : Int} (hk0 : 0 ≤ k) (hk : k ≤ 12) {p : Nat} (hp : p < 2 * k.toNat + 1) (h0 : sumBy n k.toNat ((numsF k.toNat).take p) ≤ i) (h1 : i < sumBy n k.toNat ((numsF k.toNat).take (p + 1))) :
    (vst (n + 1) k i (n + 1)).2.2 = (numsF k.toNat).getD p 0 :: (vst n (k - sz13 ((numsF k.toNat).getD p 0)) (i - sumBy n k.toNat ((numsF k.toNat).take p)) n).2.2 := by
  have hl := numsF_len k.toNat
  have hpk := pick_at (n := n) (K := k.toNat) (l := numsF k.toNat) (by omega) h0 h1
  have e1 : vst (n + 1) k i 1 = (k - sz13 ((numsF k.toNat).getD p 0), i - sumBy n k.toNat ((numsF k.toNat).take p), [(numsF k.toNat).getD p 0]) := by
    simp only [vst, Nat.add_sub_cancel, Nat.sub_zero, hpk, Int.toNat_natCast, List.nil_append]
  rw [vst_cons, e1]; rfl

/-- A vector of a number has that number. -/
theorem vst_num : ∀ {n : Nat} {k i : Int}, n ≤ 8 → 0 ≤ k → k ≤ 12 → 0 ≤ i → i < cnt n k.toNat →
    ((vst n k i n).2.2).length = n ∧ sumSz (vst n k i n).2.2 = k ∧ numF (vst n k i n).2.2 = i
  | 0, k, i, _, hk0, hk, hi, hi2 => by
    have hkz : k.toNat = 0 := by
      cases h : k.toNat with
      | zero => rfl
      | succ m => rw [h] at hi2; simp only [cnt, cnt0] at hi2; omega
    rw [hkz] at hi2
    simp only [cnt, cnt0] at hi2
    refine ⟨rfl, ?_, ?_⟩
    · show (0 : Int) = k; omega
    · show (0 : Int) = i; omega
  | n + 1, k, i, hn, hk0, hk, hi, hi2 => by
    have hl := numsF_len k.toNat
    rw [← sumBy_all (by omega)] at hi2
    obtain ⟨p, p1, p2, p3, p4⟩ := pick_spec n k.toNat (numsF k.toNat) i 0 hi hi2
    have hs := sumBy_take_succ n k.toNat p1
    have hz := sz13_in (by omega) (getD_mem (d := 0) p1)
    have hf := vst_first (n := n) (i := i) hk0 hk (p := p) (by omega) (by omega) (by omega)
    have ez : k.toNat - (sz13 ((numsF k.toNat).getD p 0)).toNat = (k - sz13 ((numsF k.toNat).getD p 0)).toNat := by omega
    rw [ez] at p4
    obtain ⟨q1, q2, q3⟩ := vst_num (n := n) (k := k - sz13 ((numsF k.toNat).getD p 0)) (i := i - sumBy n k.toNat ((numsF k.toNat).take p)) (by omega) (by omega) (by omega) p3 p4
    have hix := idx_nums (K := k.toNat) (p := p) (by omega)
    rw [hf]
    generalize hL : (vst n (k - sz13 ((numsF k.toNat).getD p 0)) (i - sumBy n k.toNat ((numsF k.toNat).take p)) n).2.2 = L at *
    generalize hzz : (numsF k.toNat).getD p 0 = z at *
    have hsum : sumSz (z :: L) = k := by simp only [sumSz]; omega
    refine ⟨by simp [q1], hsum, ?_⟩
    rw [numF, hsum, hix, Int.toNat_natCast, q1, q3]; omega

/-- The vector of a vector's number is that vector. -/
theorem vst_back : ∀ {y : List Int}, y.length ≤ 8 → sumSz y ≤ 12 → (vst y.length (sumSz y) (numF y) y.length).2.2 = y
  | [], _, _ => rfl
  | x :: ys, hn, hk => by
    have h1 := sumSz_le ys
    have h2 := sz13_le x
    have e : sumSz (x :: ys) = sz13 x + sumSz ys := rfl
    obtain ⟨p, p1, p2, p3, p4, p5⟩ := numF_cons hk
    obtain ⟨n0, n1⟩ := numF_lt (y := ys) (by omega)
    have hl := numsF_len (sumSz (x :: ys)).toNat
    have hs := sumBy_take_succ ys.length (sumSz (x :: ys)).toNat p1
    rw [p3, p5] at hs
    have hf := vst_first (n := ys.length) (k := sumSz (x :: ys)) (i := numF (x :: ys)) (by omega) hk (p := p) (by omega) (by omega) (by omega)
    rw [p3] at hf
    rw [List.length_cons, hf]
    have e2 : sumSz (x :: ys) - sz13 x = sumSz ys := by omega
    have e3 : numF (x :: ys) - sumBy ys.length (sumSz (x :: ys)).toNat ((numsF (sumSz (x :: ys)).toNat).take p) = numF ys := by omega
    rw [e2, e3, vst_back (y := ys) (by simp at hn; omega) (by omega)]

/-- Of two vectors the one of the greater number comes behind, at the first place where they are unlike. -/
theorem num_order : ∀ {v w : List Int} (x : Nat), v.length = w.length → sumSz v = sumSz w → sumSz v ≤ 12 → x < v.length → v.take x = w.take x → v.getD x 0 ≠ w.getD x 0 →
    (numF v < numF w ↔ rk (v.getD x 0) < rk (w.getD x 0))
  | [], _, x, _, _, _, hx, _, _ => by simp at hx
  | a :: v, [], x, hl, _, _, _, _, _ => by simp at hl
  | a :: v, b :: w, 0, hl, hs, hk, _, _, hne => by
    have key : ∀ (a b : Int) (v w : List Int), v.length = w.length → sumSz (a :: v) = sumSz (b :: w) → sumSz (a :: v) ≤ 12 → rk a < rk b → numF (a :: v) < numF (b :: w) := by
      intro a b v w hl hs hk hlt
      obtain ⟨p, p1, p2, p3, p4, p5⟩ := numF_cons hk
      obtain ⟨q, q1, q2, q3, q4, q5⟩ := numF_cons (x := b) (ys := w) (by omega)
      have h1 := sumSz_le v
      have h2 := sz13_le a
      have h3 := sumSz_le w
      have h4 := sz13_le b
      have e : sumSz (a :: v) = sz13 a + sumSz v := rfl
      have e' : sumSz (b :: w) = sz13 b + sumSz w := rfl
      rw [← hs] at q1 q2 q3 q4 q5
      have hl2 := numsF_len (sumSz (a :: v)).toNat
      have r1 := rk_get (K := (sumSz (a :: v)).toNat) (p := p) (by omega)
      have r2 := rk_get (K := (sumSz (a :: v)).toNat) (p := q) (by omega)
      rw [p3] at r1
      rw [q3] at r2
      have hst := sumBy_take_succ v.length (sumSz (a :: v)).toNat p1
      rw [p3, p5] at hst
      have hmo := sumBy_take_mono v.length (sumSz (a :: v)).toNat (numsF (sumSz (a :: v)).toNat) (show p + 1 ≤ q by omega)
      have hlt1 := numF_lt (y := v) (by omega)
      have hlt2 := numF_lt (y := w) (by omega)
      rw [p4, q4, ← hl]; omega
    have hl' : v.length = w.length := by simpa using hl
    simp only [List.getD_cons_zero] at hne ⊢
    have hrk : rk a ≠ rk b := fun e => by
      unfold rk at e; split at e <;> split at e <;> omega
    constructor
    · intro h
      rcases Nat.lt_or_ge (rk a) (rk b) with h1 | h1
      · exact h1
      · exfalso
        have := key b a w v hl'.symm hs.symm (by omega) (by omega); omega
    · exact key a b v w hl' hs hk
  | a :: v, b :: w, x + 1, hl, hs, hk, hx, ht, hne => by
    have hab : a = b ∧ v.take x = w.take x := by simpa using ht
    obtain ⟨rfl, ht2⟩ := hab
    have hl' : v.length = w.length := by simpa using hl
    have hs' : sumSz v = sumSz w := by simp only [sumSz] at hs; omega
    have h1 := sumSz_le v
    have h2 := sz13_le a
    have e : sumSz (a :: v) = sz13 a + sumSz v := rfl
    have ih := num_order (v := v) (w := w) x hl' hs' (by omega) (by simpa using hx) ht2 (by simpa using hne)
    simp only [List.getD_cons_succ]
    rw [← ih, numF, numF, ← hs, hl']; omega

/-! ### The functions of the program -/

theorem may_iff {n k : Int} : mayF n k = true ↔ 0 ≤ n ∧ n ≤ 8 ∧ 0 ≤ k ∧ k ≤ 12 := by simp [mayF]

theorem vec_ok {n k i : Int} (hm : 0 ≤ n ∧ n ≤ 8 ∧ 0 ≤ k ∧ k ≤ 12) (hi : 0 ≤ i) (hi2 : i < countF n k) :
    vecE n k i = 0 ∧ ((vecF n k i).length : Int) = n ∧ sumSz (vecF n k i) = k ∧ numF (vecF n k i) = i ∧ pulsesF (vecF n k i) = k ∧ indexF (vecF n k i) = (i, 0) := by
  have hc : countF n k = cnt n.toNat k.toNat := by unfold countF; rw [may_iff.2 hm]; rfl
  have e1 : vecF n k i = (vst n.toNat k i n.toNat).2.2 := by unfold vecF; rw [if_pos ⟨may_iff.2 hm, hi, hi2⟩]
  have e2 : vecE n k i = 0 := by unfold vecE; rw [may_iff.2 hm, if_pos rfl, if_pos ⟨hi, hi2⟩]
  obtain ⟨h1, h2, h3⟩ := vst_num (n := n.toNat) (k := k) (i := i) (by omega) hm.2.2.1 hm.2.2.2 hi (by omega)
  rw [← e1] at h1 h2 h3
  have hp : pulsesF (vecF n k i) = k := by unfold pulsesF; rw [if_neg (by omega)]; omega
  refine ⟨e2, by omega, h2, h3, hp, ?_⟩
  unfold indexF; rw [hp, if_neg (by omega), h3]

theorem index_ok {y : List Int} (h : (indexF y).2 = 0) : y.length ≤ 8 ∧ sumSz y ≤ 12 ∧ pulsesF y = sumSz y ∧ indexF y = (numF y, 0) ∧ 0 ≤ numF y ∧ numF y < countF y.length (sumSz y) ∧ vecF y.length (sumSz y) (numF y) = y := by
  have hp : ¬ 12 < pulsesF y := fun e => by unfold indexF at h; rw [if_pos e] at h; cases h
  have hl : ¬ 8 < y.length := fun e => by apply hp; unfold pulsesF; rw [if_pos e]; decide
  have hps : pulsesF y = min (sumSz y) 13 := by unfold pulsesF; rw [if_neg hl]
  have h0 := sumSz_le y
  have hn := numF_lt (y := y) (by omega)
  have hm : mayF (y.length : Int) (sumSz y) = true := may_iff.2 (by omega)
  have hc : countF y.length (sumSz y) = cnt y.length (sumSz y).toNat := by unfold countF; rw [hm]; rfl
  refine ⟨by omega, by omega, by omega, by unfold indexF; rw [if_neg hp], hn.1, by omega, ?_⟩
  unfold vecF
  rw [if_pos ⟨hm, hn.1, by omega⟩]
  exact vst_back (by omega) (by omega)

theorem index_bad {y : List Int} (h : (indexF y).2 ≠ 0) : 12 < pulsesF y ∧ (indexF y).1 = 0 := by
  unfold indexF at h ⊢
  split
  · exact ⟨by assumption, rfl⟩
  · rename_i hp; rw [if_neg hp] at h; exact absurd rfl h

end Go.SL.A
