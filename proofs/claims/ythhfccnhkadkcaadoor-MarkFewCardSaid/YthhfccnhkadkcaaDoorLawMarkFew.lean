/- MarkFew returns true, whatever its arguments, which read afterwards as before: no condition but that the package-level table holds what the program's text lays (tied by the card). -/
import Derived.Test.YthhfccnhkadkcaaDoorRows
import Derived.Test.YthhfccnhkadkcaaDoorCards
import Derived.Test.YthhfccnhkadkcaaDoorTie
import Derived.Test.YthhfccnhkadkcaaDoorShape
import Derived.Test.YthhfccnhkadkcaaDoorKb
import Derived.Test.YthhfccnhkadkcaaDoorT

/- Functions and what they are held to do: bound to their code. -/
namespace Go.SL.A
open Go Go.SL Go.SL.S
set_option maxRecDepth 100000
noncomputable def Cd4 : Ctx := ⟨Go.Proofs.Tryd.prog, D, Gd14, (fun _ _ => none), fun r => match r with | 3 => [2] | _ => []⟩
def annd4 (_k : List Int) (_f : Int) (_bit : Bool) (y : List Int) (loud : Int) : Nat → St → Option Ann := fun id S => match id with | 0 => some ⟨Nat, [1, 2, 4, 5, 8, 11, 12], [0, 1], fun i => [(13, .v (.int .i64) (i : Int))], fun i => [(2, some ⟨false, true, (.cons (.arr 8 (.int .i64)) (.last (.arr 8 (.arr 4 (.int .i64))))), [((List.replicate 8 (4 + Int.tmod loud 12)).take i ++ (List.replicate 8 0).drop i, List.replicate 8 (List.replicate 4 0))]⟩)], fun i => i ≤ 8, fun i => 8 - i⟩ | _ => some ⟨Nat, [1, 2, 5, 8, 11, 12], [0, 1], fun i => [(15, .v (.int .i64) (i : Int)), (14, .v (.int .i64) (sumAb (y.map fun x => Int.tmod x 4) i))], fun i => [(2, some ⟨false, true, (.cons (.arr 8 (.int .i64)) (.last (.arr 8 (.arr 4 (.int .i64))))), [((S.x 2 (.cons (.arr 8 (.int .i64)) (.last (.arr 8 (.arr 4 (.int .i64)))))).1, List.set (S.x 2 (.cons (.arr 8 (.int .i64)) (.last (.arr 8 (.arr 4 (.int .i64)))))).2 (S.i 11).toNat ((y.map fun x => Int.tmod x 4).take i ++ (List.replicate 4 0).drop i))]⟩)], fun i => i ≤ 4, fun i => 4 - i⟩
def outd4 (_k : List Int) (_f : Int) (_bit : Bool) (_y : List Int) (_loud : Int) : COut := ⟨[], .v .bool true, [], []⟩
def spd4 : Spec := fun args ins => match args, ins with
  | [⟨.arr 16 (.int .u8), k⟩, ⟨.int .i64, f⟩, ⟨.bool, bit⟩, ⟨.arr 4 (.int .i64), y⟩, ⟨.int .u8, loud⟩], [] => some (outd4 k f bit y loud)
  | _, _ => none
def Gd4 := addG Gd14 4 spd4
def Pd4 (k : List Int) (f : Int) (bit : Bool) (y : List Int) (loud : Int) : Prop :=
  ∀ (n : Int), bandK k f = n → ∃ (x : Nat), ((f = f ∧ bit = bit ∧ loud = loud ∧ (0 : Nat) = (0 : Nat) ∧ (0 : Nat) = (0 : Nat) ∧ n = n ∧ (0 : Nat) = (0 : Nat) ∧ (0 : Int) = (↑x : Int) ∧ k = k ∧ false = false ∧ y = y ∧ false
  = false ∧ List.replicate (8 : Nat) (0 : Int) = List.take x (List.replicate (8 : Nat) ((4 : Int) + Int.tmod loud (12 : Int))) ++ List.drop x (List.replicate (8 : Nat) (0 : Int)) ∧ List.replicate (8 : Nat) (List.replicate
  (4 : Nat) (0 : Int)) = List.replicate (8 : Nat) (List.replicate (4 : Nat) (0 : Int)) ∧ false = false) ∧ x ≤ (8 : Nat)) ∧ ∀ (x : Nat), x ≤ (8 : Nat) → (IntKind.min IntKind.i64 ≤ (↑x : Int) ∧ (↑x : Int) ≤ IntKind.max
  IntKind.i64 ∧ ∀ (y : List Int × List (List Int)), List.Mem y [(List.take x (List.replicate (8 : Nat) ((4 : Int) + Int.tmod loud (12 : Int))) ++ List.drop x (List.replicate (8 : Nat) (0 : Int)), List.replicate (8 : Nat)
  (List.replicate (4 : Nat) (0 : Int)))] → List.length (Prod.fst y) = (8 : Nat) ∧ (∀ (y_1 : Int), List.Mem y_1 (Prod.fst y) → IntKind.min IntKind.i64 ≤ y_1 ∧ y_1 ≤ IntKind.max IntKind.i64) ∧ List.length (Prod.snd y) = (8 :
  Nat) ∧ ∀ (y_1 : List Int), List.Mem y_1 (Prod.snd y) → List.length y_1 = (4 : Nat) ∧ ∀ (y : Int), List.Mem y y_1 → IntKind.min IntKind.i64 ≤ y ∧ y ≤ IntKind.max IntKind.i64) → bif decide ((↑x : Int) < (8 : Int)) then ((12
  : Int) ≠ (0 : Int) ∧ ((0 : Int) ≤ (↑x : Int) ∧ (↑x : Int) < (↑(8 : Nat) : Int)) ∧ Int.toNat (↑x : Int) < (8 : Nat)) ∧ ∃ (y_1 : Nat), (f = f ∧ bit = bit ∧ loud = loud ∧ (0 : Nat) = (0 : Nat) ∧ (0 : Nat) = (0 : Nat) ∧ n = n
  ∧ (0 : Nat) = (0 : Nat) ∧ IntKind.wrap IntKind.i64 ((↑x : Int) + (1 : Int)) = (↑y_1 : Int) ∧ k = k ∧ false = false ∧ y = y ∧ false = false ∧ List.set (List.take x (List.replicate (8 : Nat) ((4 : Int) + Int.tmod loud (12 :
  Int))) ++ List.drop x (List.replicate (8 : Nat) (0 : Int))) (Int.toNat (↑x : Int)) (IntKind.wrap IntKind.i64 ((4 : Int) + Int.tmod (IntKind.wrap IntKind.i64 loud) (12 : Int))) = List.take y_1 (List.replicate (8 : Nat) ((4
  : Int) + Int.tmod loud (12 : Int))) ++ List.drop y_1 (List.replicate (8 : Nat) (0 : Int)) ∧ List.replicate (8 : Nat) (List.replicate (4 : Nat) (0 : Int)) = List.replicate (8 : Nat) (List.replicate (4 : Nat) (0 : Int)) ∧
  false = false) ∧ y_1 ≤ (8 : Nat) ∧ (8 : Nat) - y_1 < (8 : Nat) - x else (((0 : Int) ≤ n ∧ n < (↑(8 : Nat) : Int)) ∧ Int.toNat n < (8 : Nat)) ∧ ∃ (x_1 : Nat), ((f = f ∧ bit = bit ∧ (0 : Nat) = (0 : Nat) ∧ (0 : Nat) = (0 :
  Nat) ∧ n = n ∧ (0 : Nat) = (0 : Nat) ∧ (0 : Int) = sumAb (List.map (fun (x : Int) => Int.tmod x (4 : Int)) y) x_1 ∧ (0 : Int) = (↑x_1 : Int) ∧ k = k ∧ false = false ∧ y = y ∧ false = false ∧ List.set (List.take x
  (List.replicate (8 : Nat) ((4 : Int) + Int.tmod loud (12 : Int))) ++ List.drop x (List.replicate (8 : Nat) (0 : Int))) (Int.toNat n) (0 : Int) = List.set (List.take x (List.replicate (8 : Nat) ((4 : Int) + Int.tmod loud
  (12 : Int))) ++ List.drop x (List.replicate (8 : Nat) (0 : Int))) (Int.toNat n) (0 : Int) ∧ List.replicate (8 : Nat) (List.replicate (4 : Nat) (0 : Int)) = List.set (List.replicate (8 : Nat) (List.replicate (4 : Nat) (0 :
  Int))) (Int.toNat n) (List.take x_1 (List.map (fun (x : Int) => Int.tmod x (4 : Int)) y) ++ List.drop x_1 (List.replicate (4 : Nat) (0 : Int))) ∧ false = false) ∧ x_1 ≤ (4 : Nat)) ∧ ∀ (x_2 : Nat), x_2 ≤ (4 : Nat) →
  (IntKind.min IntKind.i64 ≤ (↑x_2 : Int) ∧ (↑x_2 : Int) ≤ IntKind.max IntKind.i64 ∧ IntKind.min IntKind.i64 ≤ sumAb (List.map (fun (x : Int) => Int.tmod x (4 : Int)) y) x_2 ∧ sumAb (List.map (fun (x : Int) => Int.tmod x (4
  : Int)) y) x_2 ≤ IntKind.max IntKind.i64 ∧ ∀ (y_1 : List Int × List (List Int)), List.Mem y_1 [(List.set (List.take x (List.replicate (8 : Nat) ((4 : Int) + Int.tmod loud (12 : Int))) ++ List.drop x (List.replicate (8 :
  Nat) (0 : Int))) (Int.toNat n) (0 : Int), List.set (List.replicate (8 : Nat) (List.replicate (4 : Nat) (0 : Int))) (Int.toNat n) (List.take x_2 (List.map (fun (x : Int) => Int.tmod x (4 : Int)) y) ++ List.drop x_2
  (List.replicate (4 : Nat) (0 : Int))))] → List.length (Prod.fst y_1) = (8 : Nat) ∧ (∀ (y : Int), List.Mem y (Prod.fst y_1) → IntKind.min IntKind.i64 ≤ y ∧ y ≤ IntKind.max IntKind.i64) ∧ List.length (Prod.snd y_1) = (8 :
  Nat) ∧ ∀ (y : List Int), List.Mem y (Prod.snd y_1) → List.length y = (4 : Nat) ∧ ∀ (y_2 : Int), List.Mem y_2 y → IntKind.min IntKind.i64 ≤ y_2 ∧ y_2 ≤ IntKind.max IntKind.i64) → bif decide ((↑x_2 : Int) < (4 : Int)) then
  (((0 : Int) ≤ (↑x_2 : Int) ∧ (↑x_2 : Int) < (↑(4 : Nat) : Int)) ∧ Int.toNat (↑x_2 : Int) < (4 : Nat) ∧ (4 : Int) ≠ (0 : Int) ∧ ((0 : Int) ≤ n ∧ n < (↑(8 : Nat) : Int)) ∧ ((0 : Int) ≤ (↑x_2 : Int) ∧ (↑x_2 : Int) < (↑(4 :
  Nat) : Int)) ∧ Int.toNat n < (8 : Nat) ∧ Int.toNat (↑x_2 : Int) < (4 : Nat)) ∧ (((0 : Int) ≤ n ∧ n < (↑(8 : Nat) : Int)) ∧ ((0 : Int) ≤ (↑x_2 : Int) ∧ (↑x_2 : Int) < (↑(4 : Nat) : Int)) ∧ Int.toNat n < (8 : Nat) ∧
  Int.toNat (↑x_2 : Int) < (4 : Nat) ∧ ((0 : Int) ≤ n ∧ n < (↑(8 : Nat) : Int)) ∧ ((0 : Int) ≤ (↑x_2 : Int) ∧ (↑x_2 : Int) < (↑(4 : Nat) : Int)) ∧ Int.toNat n < (8 : Nat) ∧ Int.toNat (↑x_2 : Int) < (4 : Nat)) ∧ ∃ (y_1 :
  Nat), (f = f ∧ bit = bit ∧ (0 : Nat) = (0 : Nat) ∧ (0 : Nat) = (0 : Nat) ∧ n = n ∧ (0 : Nat) = (0 : Nat) ∧ IntKind.wrap IntKind.i64 (sumAb (List.map (fun (x : Int) => Int.tmod x (4 : Int)) y) x_2 + max (List.getD
  (List.getD (List.set (List.set (List.replicate (8 : Nat) (List.replicate (4 : Nat) (0 : Int))) (Int.toNat n) (List.take x_2 (List.map (fun (x : Int) => Int.tmod x (4 : Int)) y) ++ List.drop x_2 (List.replicate (4 : Nat)
  (0 : Int)))) (Int.toNat n) (List.set (List.getD (List.set (List.replicate (8 : Nat) (List.replicate (4 : Nat) (0 : Int))) (Int.toNat n) (List.take x_2 (List.map (fun (x : Int) => Int.tmod x (4 : Int)) y) ++ List.drop x_2
  (List.replicate (4 : Nat) (0 : Int)))) (Int.toNat n) (List.replicate (4 : Nat) (0 : Int))) (Int.toNat (↑x_2 : Int)) (Int.tmod (List.getD y (Int.toNat (↑x_2 : Int)) (0 : Int)) (4 : Int)))) (Int.toNat n) (List.replicate (4
  : Nat) (0 : Int))) (Int.toNat (↑x_2 : Int)) (0 : Int)) (IntKind.wrap IntKind.i64 ((0 : Int) - List.getD (List.getD (List.set (List.set (List.replicate (8 : Nat) (List.replicate (4 : Nat) (0 : Int))) (Int.toNat n)
  (List.take x_2 (List.map (fun (x : Int) => Int.tmod x (4 : Int)) y) ++ List.drop x_2 (List.replicate (4 : Nat) (0 : Int)))) (Int.toNat n) (List.set (List.getD (List.set (List.replicate (8 : Nat) (List.replicate (4 : Nat)
  (0 : Int))) (Int.toNat n) (List.take x_2 (List.map (fun (x : Int) => Int.tmod x (4 : Int)) y) ++ List.drop x_2 (List.replicate (4 : Nat) (0 : Int)))) (Int.toNat n) (List.replicate (4 : Nat) (0 : Int))) (Int.toNat (↑x_2 :
  Int)) (Int.tmod (List.getD y (Int.toNat (↑x_2 : Int)) (0 : Int)) (4 : Int)))) (Int.toNat n) (List.replicate (4 : Nat) (0 : Int))) (Int.toNat (↑x_2 : Int)) (0 : Int)))) = sumAb (List.map (fun (x : Int) => Int.tmod x (4 :
  Int)) y) y_1 ∧ IntKind.wrap IntKind.i64 ((↑x_2 : Int) + (1 : Int)) = (↑y_1 : Int) ∧ k = k ∧ false = false ∧ y = y ∧ false = false ∧ List.set (List.take x (List.replicate (8 : Nat) ((4 : Int) + Int.tmod loud (12 : Int)))
  ++ List.drop x (List.replicate (8 : Nat) (0 : Int))) (Int.toNat n) (0 : Int) = List.set (List.take x (List.replicate (8 : Nat) ((4 : Int) + Int.tmod loud (12 : Int))) ++ List.drop x (List.replicate (8 : Nat) (0 : Int)))
  (Int.toNat n) (0 : Int) ∧ List.set (List.set (List.replicate (8 : Nat) (List.replicate (4 : Nat) (0 : Int))) (Int.toNat n) (List.take x_2 (List.map (fun (x : Int) => Int.tmod x (4 : Int)) y) ++ List.drop x_2
  (List.replicate (4 : Nat) (0 : Int)))) (Int.toNat n) (List.set (List.getD (List.set (List.replicate (8 : Nat) (List.replicate (4 : Nat) (0 : Int))) (Int.toNat n) (List.take x_2 (List.map (fun (x : Int) => Int.tmod x (4 :
  Int)) y) ++ List.drop x_2 (List.replicate (4 : Nat) (0 : Int)))) (Int.toNat n) (List.replicate (4 : Nat) (0 : Int))) (Int.toNat (↑x_2 : Int)) (Int.tmod (List.getD y (Int.toNat (↑x_2 : Int)) (0 : Int)) (4 : Int))) =
  List.set (List.replicate (8 : Nat) (List.replicate (4 : Nat) (0 : Int))) (Int.toNat n) (List.take y_1 (List.map (fun (x : Int) => Int.tmod x (4 : Int)) y) ++ List.drop y_1 (List.replicate (4 : Nat) (0 : Int))) ∧ false =
  false) ∧ y_1 ≤ (4 : Nat) ∧ (4 : Nat) - y_1 < (4 : Nat) - x_2 else (Prod.snd (putM k f bit (List.set (List.take x (List.replicate (8 : Nat) ((4 : Int) + Int.tmod loud (12 : Int))) ++ List.drop x (List.replicate (8 : Nat)
  (0 : Int))) (Int.toNat n) (0 : Int), List.set (List.replicate (8 : Nat) (List.replicate (4 : Nat) (0 : Int))) (Int.toNat n) (List.take x_2 (List.map (fun (x : Int) => Int.tmod x (4 : Int)) y) ++ List.drop x_2
  (List.replicate (4 : Nat) (0 : Int))))) == decide ((2 : Int) ≤ sumAb (List.map (fun (x : Int) => Int.tmod x (4 : Int)) y) x_2)) = true
theorem vcd4 (k : List Int) (f : Int) (bit : Bool) (y : List Int) (loud : Int) : Pd4 k f bit y loud = vcFun Cd4 (annd4 k f bit y loud) Go.Proofs.Tryd.f4 [⟨.arr 16 (.int .u8), k⟩, ⟨.int .i64, f⟩, ⟨.bool, bit⟩, ⟨.arr 4 (.int .i64), y⟩, ⟨.int .u8, loud⟩] [] (outd4 k f bit y loud) := by kernel_rfl

end Go.SL.A

/- MarkFew: plain. -/
namespace Go.SL.A
open Go Go.SL Go.SL.S
set_option maxRecDepth 100000

theorem hwd4 {k y : List Int} {f loud : Int} {bit : Bool} (hw : Go.SL.allP (List.flatMap (fun a : AV => a.t.wf a.x) [⟨.arr 16 (.int .u8), k⟩, ⟨.int .i64, f⟩, ⟨.bool, bit⟩, ⟨.arr 4 (.int .i64), y⟩, ⟨.int .u8, loud⟩] ++ List.flatMap Blk.wf [])) : y.length = 4 ∧ 0 ≤ loud ∧ loud ≤ 255 := by
  simp only [List.flatMap_cons, List.flatMap_nil, Ty.wf, List.append_nil, List.cons_append, List.nil_append, Go.SL.allP] at hw
  obtain ⟨-, -, -, -, h5, -, h9, h10⟩ := hw
  have e3 : IntKind.u8.min = 0 := by decide
  have e4 : IntKind.u8.max = 255 := by decide
  rw [e3] at h9; rw [e4] at h10
  exact ⟨h5, h9, h10⟩

def sum4 (a b c d : Int) : Int := absZ a + absZ b + absZ c + absZ d
def cand (a b c d : Int) : List (List Int) :=
  [[absZ a, absZ b, absZ c, absZ d], [a, absZ b, absZ c, absZ d], [absZ a, b, absZ c, absZ d], [absZ a, absZ b, c, absZ d], [absZ a, absZ b, absZ c, d], [4, 3, -3, -2]]
def chkW (a b c d : Int) (w : List Int) : Bool :=
  decide (w.length = 4) && (decide (sum4 (w.getD 0 0) (w.getD 1 0) (w.getD 2 0) (w.getD 3 0) = sum4 a b c d) && (decide (2 ≤ w.getD 0 0 + w.getD 1 0 + w.getD 2 0 + w.getD 3 0) && decide (sum4 (a - w.getD 0 0) (b - w.getD 1 0) (c - w.getD 2 0) (d - w.getD 3 0) ≤ 16)))
def grid : List Int := [-3, -2, -1, 0, 1, 2, 3]
theorem grid_all : (grid.all fun a => grid.all fun b => grid.all fun c => grid.all fun d => decide (sum4 a b c d < 2) || (cand a b c d).any (chkW a b c d)) = true := by decide +kernel
theorem mem_grid {a : Int} (h : -3 ≤ a ∧ a ≤ 3) : a ∈ grid := by
  rcases (show a = -3 ∨ a = -2 ∨ a = -1 ∨ a = 0 ∨ a = 1 ∨ a = 2 ∨ a = 3 by omega) with rfl | rfl | rfl | rfl | rfl | rfl | rfl <;> decide
theorem grid_ok {a b c d : Int} (ha : -3 ≤ a ∧ a ≤ 3) (hb : -3 ≤ b ∧ b ≤ 3) (hc : -3 ≤ c ∧ c ≤ 3) (hd : -3 ≤ d ∧ d ≤ 3) (h : 2 ≤ sum4 a b c d) : ∃ p q r t : Int, sum4 p q r t = sum4 a b c d ∧ 2 ≤ p + q + r + t ∧ sum4 (a - p) (b - q) (c - r) (d - t) ≤ 16 := by
  have g := List.all_eq_true.1 (List.all_eq_true.1 (List.all_eq_true.1 (List.all_eq_true.1 grid_all a (mem_grid ha)) b (mem_grid hb)) c (mem_grid hc)) d (mem_grid hd)
  rw [Bool.or_eq_true, decide_eq_true_eq] at g
  rcases g with g | g
  · omega
  · obtain ⟨w, -, hw⟩ := List.any_eq_true.1 g
    unfold chkW at hw
    rw [Bool.and_eq_true, Bool.and_eq_true, Bool.and_eq_true, decide_eq_true_eq, decide_eq_true_eq, decide_eq_true_eq, decide_eq_true_eq] at hw
    exact ⟨_, _, _, _, hw.2.1, hw.2.2.1, hw.2.2.2⟩
theorem sz_abs12 {x : Int} (h : -12 ≤ x ∧ x ≤ 12) : sz13 x = absZ x := by
  rw [sz13_small h.1 h.2]; rfl
theorem sum4_sz {a b c d : Int} (h : sum4 a b c d ≤ 12) : sumSz [a, b, c, d] = sum4 a b c d := by
  have e : sumSz [a, b, c, d] = sz13 a + (sz13 b + (sz13 c + (sz13 d + 0))) := rfl
  have h' := h
  unfold sum4 absZ at h'
  rw [e, sz_abs12 (by omega), sz_abs12 (by omega), sz_abs12 (by omega), sz_abs12 (by omega)]
  unfold sum4; omega
theorem abs3 {x : Int} (h : -3 ≤ x ∧ x ≤ 3) : 0 ≤ absZ x ∧ absZ x ≤ 3 := by unfold absZ; omega
theorem abs_mul {x q : Int} (h : q = 1 ∨ q = -1) : absZ (x * q) = absZ x := by
  unfold absZ; rcases h with rfl | rfl <;> omega
theorem abs_far {x u q : Int} (h : q = 1 ∨ q = -1) : absZ (x - u * q) = absZ (x * q - u) := by
  unfold absZ; rcases h with rfl | rfl <;> omega
theorem mul_two {u q : Int} (h : q = 1 ∨ q = -1) : u * q * q = u := by rcases h with rfl | rfl <;> omega
theorem mul_fit {x q : Int} (h : q = 1 ∨ q = -1) (hx : -3 ≤ x ∧ x ≤ 3) : -3 ≤ x * q ∧ x * q ≤ 3 := by rcases h with rfl | rfl <;> omega
theorem some_speak {y c : List Int} (hl : y.length = 4) (hy : ∀ i, -3 ≤ y.getD i 0 ∧ y.getD i 0 ≤ 3) (hc : ∀ i, i < 4 → c.getD i 0 = 1 ∨ c.getD i 0 = -1) (h2 : 2 ≤ sumAb y 4) : ∃ z : List Int, z.length = 4 ∧ sumSz z = sumSz y ∧ 2 ≤ dotZ z c 4 ∧ farM y z 4 ≤ 16 := by
  obtain ⟨a, b, p, d, rfl⟩ := four hl
  have ha := hy 0
  have hb := hy 1
  have hp := hy 2
  have hd := hy 3
  simp only [List.getD_cons_zero, List.getD_cons_succ] at ha hb hp hd
  have es : sumAb [a, b, p, d] 4 = sum4 a b p d := by
    show 0 + absZ a + absZ b + absZ p + absZ d = _
    unfold sum4; rw [Int.zero_add]
  rw [es] at h2
  have a1 := abs3 ha
  have a2 := abs3 hb
  have a3 := abs3 hp
  have a4 := abs3 hd
  have hs12 : sum4 a b p d ≤ 12 := by unfold sum4; omega
  have c0 := hc 0 (by omega)
  have c1 := hc 1 (by omega)
  have c2 := hc 2 (by omega)
  have c3 := hc 3 (by omega)
  have hsum : sum4 (a * c.getD 0 0) (b * c.getD 1 0) (p * c.getD 2 0) (d * c.getD 3 0) = sum4 a b p d := by
    unfold sum4; rw [abs_mul c0, abs_mul c1, abs_mul c2, abs_mul c3]
  obtain ⟨u, v, w, x, e1, e2, e3⟩ := grid_ok (mul_fit c0 ha) (mul_fit c1 hb) (mul_fit c2 hp) (mul_fit c3 hd) (by rw [hsum]; exact h2)
  have hs2 : sum4 (u * c.getD 0 0) (v * c.getD 1 0) (w * c.getD 2 0) (x * c.getD 3 0) = sum4 a b p d := by
    rw [← hsum, ← e1]; unfold sum4; rw [abs_mul c0, abs_mul c1, abs_mul c2, abs_mul c3]
  refine ⟨[u * c.getD 0 0, v * c.getD 1 0, w * c.getD 2 0, x * c.getD 3 0], rfl, ?_, ?_, ?_⟩
  · rw [sum4_sz (by rw [hs2]; exact hs12), sum4_sz hs12, hs2]
  · rw [dot4, mul_two c0, mul_two c1, mul_two c2, mul_two c3]; exact e2
  · rw [far4, abs_far c0, abs_far c1, abs_far c2, abs_far c3]; exact e3
theorem sumAb4 (z : List Int) : sumAb z 4 = 0 + absZ (z.getD 0 0) + absZ (z.getD 1 0) + absZ (z.getD 2 0) + absZ (z.getD 3 0) := rfl
theorem mov_all : ∀ b : Fin 8, ∀ L : Fin 16, 4 ≤ L.val → 16 ≤ movF (List.set (List.replicate 8 (L.val : Int)) b.val 0) (b.val : Int) := by decide +kernel
theorem mov_few {b L : Int} (hb : 0 ≤ b ∧ b < 8) (hL : 4 ≤ L ∧ L ≤ 15) : 16 ≤ movF (List.set (List.replicate 8 L) b.toNat 0) b := by
  have := mov_all ⟨b.toNat, by omega⟩ ⟨L.toNat, by omega⟩ (by show 4 ≤ L.toNat; omega)
  rw [show (((⟨L.toNat, by omega⟩ : Fin 16).val : Nat) : Int) = L from Int.toNat_of_nonneg (by omega), show (((⟨b.toNat, by omega⟩ : Fin 8).val : Nat) : Int) = b from Int.toNat_of_nonneg (by omega)] at this
  exact this
theorem few_ok (k : List Int) (f : Int) (bit : Bool) {z : List Int} {L : Int} (hl : z.length = 4) (hz : ∀ i, -3 ≤ z.getD i 0 ∧ z.getD i 0 ≤ 3) (hL : 4 ≤ L ∧ L ≤ 15) : (putM k f bit (List.set (List.replicate 8 L) (bandK k f).toNat 0, List.set (List.replicate 8 (List.replicate 4 0)) (bandK k f).toNat z)).2 = decide (2 ≤ sumAb z 4) := by
  have hb := band_fit k f
  have hrep : ∀ y ∈ List.replicate 8 (List.replicate 4 (0 : Int)), y.length = 4 := fun y hy => by rw [(List.mem_replicate.1 hy).2]; rfl
  have ho : okRow z = true := List.all_eq_true.2 fun x hx => by
    obtain ⟨i, hi, e⟩ := List.getElem_of_mem hx
    have := hz i
    rw [List.getD_eq_getElem?_getD, List.getElem?_eq_getElem hi, Option.getD_some, e] at this
    exact okN_iff.2 (by omega)
  have hs : sumAb z 4 = sumSz z := by rw [sumAb_sz z 4 (by omega) ho, List.take_of_length_le (by omega)]
  have hs12 : sumSz z ≤ 12 := by
    rw [← hs]
    have h0 := abs3 (hz 0)
    have h1 := abs3 (hz 1)
    have h2 := abs3 (hz 2)
    have h3 := abs3 (hz 3)
    rw [sumAb4]; omega
  have hrow : rowZ (List.set (List.replicate 8 (List.replicate 4 (0 : Int))) (bandK k f).toNat z) (bandK k f) = z := row_set (by rw [List.length_replicate]; omega) z
  have l8 : (List.set (List.replicate 8 (List.replicate 4 (0 : Int))) (bandK k f).toNat z).length = 8 := by rw [List.length_set, List.length_replicate]
  have l4 : ∀ y ∈ List.set (List.replicate 8 (List.replicate 4 (0 : Int))) (bandK k f).toNat z, y.length = 4 := fun y hy => by
    rcases List.mem_or_eq_of_mem_set hy with hy | rfl
    · exact hrep y hy
    · exact hl
  have hh := held_set held_zero ho (bandK k f).toNat
  have hmv := mov_few hb hL
  generalize List.set (List.replicate 8 (List.replicate 4 (0 : Int))) (bandK k f).toNat z = Y at *
  generalize List.set (List.replicate 8 L) (bandK k f).toNat 0 = S at *
  obtain ⟨y', W⟩ := putM_ok k f bit (s := (S, Y)) l8 l4 hh (by rw [hrow]; exact hs12)
  have O := W.o
  rw [hrow] at O
  by_cases h2 : 2 ≤ sumAb z 4
  · rw [decide_eq_true h2]
    obtain ⟨w, w1, w2, w3, w4⟩ := some_speak (c := chipB bit (chipsK k f)) hl hz (fun i hi => chipB_one k f bit hi) h2
    exact (O.least w w1 w2 w3 (Int.le_trans w4 hmv)).1
  · rw [decide_eq_false h2, O.ok]
    have := dot_abs (c := chipB bit (chipsK k f)) O.len (by rw [O.sz]; exact hs12) (fun i hi => chipB_one k f bit hi)
    rw [O.sz, ← hs] at this
    exact decide_eq_false (by omega)
theorem tmod4 (x : Int) : -3 ≤ x.tmod 4 ∧ x.tmod 4 ≤ 3 := by
  obtain ⟨_, h1, h2, h3, h4⟩ := tdm x (k := 4) (by omega)
  omega
theorem pured4 (k : List Int) (f : Int) (bit : Bool) (y : List Int) (loud : Int) (hw : y.length = 4 ∧ 0 ≤ loud ∧ loud ≤ 255) : Pd4 k f bit y loud := by
  obtain ⟨hl, hn⟩ := hw
  unfold Pd4
  have hb := band_fit k f
  have wl : IntKind.i64.wrap loud = loud := w64 (by omega) (by omega)
  have hL : 4 ≤ 4 + Int.tmod loud 12 ∧ 4 + Int.tmod loud 12 ≤ 15 := by
    obtain ⟨_, h1, h2, h3, h4⟩ := tdm loud (k := 12) (by omega)
    have := h3 hn.1
    omega
  have w : IntKind.i64.wrap (4 + Int.tmod loud 12) = 4 + Int.tmod loud 12 := w64 (by omega) (by omega)
  have fin := few_ok k f bit (z := y.map fun x => Int.tmod x 4) (L := 4 + Int.tmod loud 12) (by rw [List.length_map]; exact hl) (fun i => by
    by_cases hi : i < y.length
    · rw [List.getD_eq_getElem?_getD, List.getElem?_map, List.getElem?_eq_getElem hi]; exact tmod4 _
    · rw [List.getD_eq_getElem?_getD, List.getElem?_eq_none (by rw [List.length_map]; omega)]; simp) hL
  have hz : ∀ j, j < 4 → (y.map fun x => Int.tmod x 4)[j]? = some (Int.tmod (y.getD j 0) 4) := fun j hj => by
    rw [List.getElem?_map, List.getD_eq_getElem?_getD, List.getElem?_eq_getElem (by omega)]; rfl
  have hzl : (y.map fun x => Int.tmod x 4).length = 4 := by rw [List.length_map]; exact hl
  rintro n hn0
  rw [hn0] at hb fin
  simp only [eq_self, true_and, and_true, Int.toNat_natCast, wl, w]
  generalize (y.map fun x => Int.tmod x 4) = z at *
  generalize 4 + Int.tmod loud 12 = L at *
  refine ⟨0, ⟨⟨rfl, by simp⟩, by omega⟩, fun x hx _ => ?_⟩
  by_cases h : (x : Int) < 8
  · rw [decide_eq_true h, cond_true]
    exact ⟨⟨by decide, ⟨by omega, by omega⟩, by omega⟩, x + 1, ⟨step_i (by omega), set_step (by simp; omega) (by simp; omega) (by rw [List.getElem?_replicate, if_pos (by omega)])⟩, by omega, by omega⟩
  have : x = 8 := by omega
  subst this
  rw [decide_eq_false h, cond_false]
  have hS : (List.replicate 8 L).take 8 ++ (List.replicate 8 (0 : Int)).drop 8 = List.replicate 8 L := rfl
  rw [hS]
  refine ⟨⟨⟨by omega, by omega⟩, by omega⟩, 0, ⟨⟨rfl, rfl, ?_⟩, by omega⟩, fun j hj _ => ?_⟩
  · rw [List.take_zero, List.nil_append, List.drop_zero]
    exact (set_same (L := List.replicate 8 (List.replicate 4 (0 : Int))) (by rw [List.getD_eq_getElem?_getD, List.getElem?_replicate, if_pos (by omega)]; rfl) (by rw [List.length_replicate]; omega)).symm
  by_cases h4 : (j : Int) < 4
  · rw [decide_eq_true h4, cond_true]
    have hv := hz j (by omega)
    have ht := tmod4 (y.getD j 0)
    have hst : sumAb z (j + 1) = sumAb z j + absZ (z.getD j 0) := rfl
    rw [List.getD_eq_getElem?_getD (l := z), hv, Option.getD_some] at hst
    have hle : ∀ j, j ≤ 4 → 0 ≤ sumAb z j ∧ sumAb z j ≤ 3 * (j : Int) := by
      intro j
      induction j with
      | zero => intro _; exact ⟨Int.le_refl _, Int.le_refl _⟩
      | succ i ih =>
        intro hi
        have := ih (by omega)
        have ht := tmod4 (y.getD i 0)
        have hst : sumAb z (i + 1) = sumAb z i + absZ (z.getD i 0) := rfl
        rw [List.getD_eq_getElem?_getD (l := z), hz i (by omega), Option.getD_some] at hst
        rw [hst]; unfold absZ; omega
    have hj := hle j (by omega)
    have row1 : ∀ A : List Int, List.getD (List.set (List.replicate 8 (List.replicate 4 (0 : Int))) n.toNat A) n.toNat (List.replicate 4 0) = A := fun A => row_set (by rw [List.length_replicate]; omega) A
    have step := set_step (k := j) (s := z) (f := List.replicate 4 (0 : Int)) (by omega) (by rw [List.length_replicate]; omega) hv
    have gv : ∀ (A : List Int) (v : Int), A.length = 4 → List.getD (List.set A j v) j 0 = v := fun A v hA => by
      rw [List.getD_eq_getElem?_getD, List.getElem?_set_self (by omega)]; rfl
    have hA : (List.take j z ++ List.drop j (List.replicate 4 (0 : Int))).length = 4 := by simp; omega
    generalize List.take j z ++ List.drop j (List.replicate 4 (0 : Int)) = A at *
    simp only [List.set_set, row1]
    rw [gv _ _ hA, step]
    generalize Int.tmod (y.getD j 0) 4 = v at *
    rw [w64 (n := 0 - v) (by omega) (by omega)]
    refine ⟨⟨⟨by omega, by omega⟩, by omega, by decide, ⟨by omega, by omega⟩, ⟨by omega, by omega⟩, by omega, by omega⟩, ⟨⟨by omega, by omega⟩, ⟨by omega, by omega⟩, by omega, by omega, ⟨by omega, by omega⟩, ⟨by omega, by omega⟩, by omega, by omega⟩, j + 1, ⟨?_, step_i (by omega), rfl⟩, by omega, by omega⟩
    rw [hst]
    unfold absZ
    rw [w64 (by omega) (by omega)]; omega
  · have : j = 4 := by omega
    subst this
    rw [decide_eq_false h4, cond_false]
    have hA : List.take 4 z ++ List.drop 4 (List.replicate 4 (0 : Int)) = z := by
      rw [List.take_of_length_le (by omega), List.drop_eq_nil_of_le (by simp), List.append_nil]
    rw [hA, fin]
    exact beq_self_eq_true _
end Go.SL.A

/- Functions do what they are held to do. -/
namespace Go.SL.A
open Go Go.SL Go.SL.S
theorem sndd4 : Sound Go.Proofs.Tryd.prog Gd4 := sndd14.add ⟨_, Go.Proofs.Tryd.func4, by kernel_rfl, by kernel_rfl⟩ (by
  intro args ins out h hp
  unfold spd4 at h
  split at h
  · rename_i k f bit y loud
    cases h
    exact vcFun_ok (C := Cd4) good sndd14 Meth.none mix Go.Proofs.Tryd.func4 (annd4 k f bit y loud) (fun hw => by rw [← vcd4 k f bit y loud]; exact pured4 k f bit y loud (hwd4 hw))
  · cases h)

end Go.SL.A

/- MarkFew: the law returns true, whatever its arguments; each argument reads afterwards as before. No condition. -/
namespace Go.Proofs.YthhfccnhkadkcaaDoor
open Go Go.SL Go.SL.S Go.ChangeShapes Go.WideShapes Go.ChangeAt Go.WideMaps Go.WideElems Go.RowKit
set_option maxRecDepth 100000

theorem parsT : ((Go.Proofs.Tryd.f4.params.toList).all fun t => Nat.blt t Go.Proofs.Tryd.prog.types.size) = true := by kernel_rfl
theorem parsL : Go.Proofs.Tryd.f4.params.toList = [23, 3, 4, 26, 5] := by kernel_rfl
theorem law_pure : ∀ avs bls, argsOk Go.SL.A.D Go.Proofs.Tryd.f4.params.toList 0 avs bls → VCall Go.Proofs.Tryd.prog 4 avs bls ⟨[], .v .bool true, [], []⟩ := by
  rw [parsL]
  intro avs bls h
  replace h : ∃ (t : Ty) (x : t.I) (avs' : List AV), Go.SL.A.D.ty 23 = some t ∧ avs = ⟨t, x⟩ :: avs' ∧ argsOk Go.SL.A.D [3, 4, 26, 5] 0 avs' bls := h
  obtain ⟨t, x0, avs, ht, rfl, h⟩ := h
  obtain rfl : .arr 16 (.int .u8) = t := Option.some.inj ((show (some (.arr 16 (.int .u8)) : Option Ty) = Go.SL.A.D.ty 23 by kernel_rfl).trans ht)
  replace h : ∃ (t : Ty) (x : t.I) (avs' : List AV), Go.SL.A.D.ty 3 = some t ∧ avs = ⟨t, x⟩ :: avs' ∧ argsOk Go.SL.A.D [4, 26, 5] 0 avs' bls := h
  obtain ⟨t, x1, avs, ht, rfl, h⟩ := h
  obtain rfl : .int .i64 = t := Option.some.inj ((show (some (.int .i64) : Option Ty) = Go.SL.A.D.ty 3 by kernel_rfl).trans ht)
  replace h : ∃ (t : Ty) (x : t.I) (avs' : List AV), Go.SL.A.D.ty 4 = some t ∧ avs = ⟨t, x⟩ :: avs' ∧ argsOk Go.SL.A.D [26, 5] 0 avs' bls := h
  obtain ⟨t, x2, avs, ht, rfl, h⟩ := h
  obtain rfl : .bool = t := Option.some.inj ((show (some (.bool) : Option Ty) = Go.SL.A.D.ty 4 by kernel_rfl).trans ht)
  replace h : ∃ (t : Ty) (x : t.I) (avs' : List AV), Go.SL.A.D.ty 26 = some t ∧ avs = ⟨t, x⟩ :: avs' ∧ argsOk Go.SL.A.D [5] 0 avs' bls := h
  obtain ⟨t, x3, avs, ht, rfl, h⟩ := h
  obtain rfl : .arr 4 (.int .i64) = t := Option.some.inj ((show (some (.arr 4 (.int .i64)) : Option Ty) = Go.SL.A.D.ty 26 by kernel_rfl).trans ht)
  replace h : ∃ (t : Ty) (x : t.I) (avs' : List AV), Go.SL.A.D.ty 5 = some t ∧ avs = ⟨t, x⟩ :: avs' ∧ argsOk Go.SL.A.D [] 0 avs' bls := h
  obtain ⟨t, x4, avs, ht, rfl, h⟩ := h
  obtain rfl : .int .u8 = t := Option.some.inj ((show (some (.int .u8) : Option Ty) = Go.SL.A.D.ty 5 by kernel_rfl).trans ht)
  obtain ⟨rfl, rfl⟩ : avs = [] ∧ bls = [] := h
  have q := (Go.SL.A.sndd4 4 Go.SL.A.spd4 rfl).2 [⟨.arr 16 (.int .u8), x0⟩, ⟨.int .i64, x1⟩, ⟨.bool, x2⟩, ⟨.arr 4 (.int .i64), x3⟩, ⟨.int .u8, x4⟩] [] _ rfl (trivial)
  exact q

abbrev laidL : List (String × DataW Unit) := [("belfry/sip.signs", Rows.laid_belfry_sip_signs)]
theorem lifted (os : Os) (started : os.Started) (H : Type) (enc : TypeId × Value → H) :
    ReturnsInHanded {} Go.Proofs.Tryd.checked os 4 .any (fun w args => (Rows.markFewSpec.pre enc Go.Proofs.Tryd.prog Go.Proofs.Tryd.f4 [] false w args ∧ laidMetH Go.Proofs.Tryd.prog laidL w) ∧ sizedMet enc Go.Proofs.Tryd.prog Go.Proofs.Tryd.f4 (OpenSpec.ofChange Rows.markFewSpec) false w args) (Rows.markFewSpec.post enc Go.Proofs.Tryd.prog Go.Proofs.Tryd.f4 false true false false) := by
  refine returnsInHanded_of_change_and (C := Go.Proofs.Tryd.checked) (X := fun w _ => laidMetH Go.Proofs.Tryd.prog laidL w) (fun _ _ _ hh h => h.of_heap hh) Seat.own started (by kernel_rfl) Go.Proofs.Tryd.func4
    (ChangeSpec.witness_at (enc := enc) (C := Go.Proofs.Tryd.checked) (os := os) (X := fun w _ => laidMetH Go.Proofs.Tryd.prog laidL w) false (Seat.laidWorld os) #[.agg (Array.replicate 16 (.int .u8 0)), .int .i64 0, .bool false, .agg (Array.replicate 4 (.int .i64 0)), .int .u8 0] 8 rfl (by kernel_rfl) (by kernel_rfl) (by kernel_rfl) (by kernel_rfl) (by kernel_rfl) (Seat.laidWorld_met os _)) ?_
  intro W base args ds gs before hval hW _ _ hL _
  refine law_calls (D := Go.SL.A.D) Go.SL.A.good Seat.kids Seat.slicesFull (fun t ht => Nat.le_of_ble_eq_true (List.all_eq_true.1 parsT t ht)) (by kernel_rfl) (show Go.Proofs.Tryd.f4.resultTypes = #[4] by kernel_rfl) Go.Proofs.Tryd.underlying4 rfl (fun ds h => ?_) law_pure (fun g a hg => Seat.signs_gl hL g a hg) hval hW
  have h : ds.length = 5 := h
  match ds, h with
  | [_, _, _, _, _], _ => rfl

theorem joined : joinedFacts Go.Proofs.Tryd.prog 4 Go.Proofs.Tryd.f4 Rows.markFewSpec Rows.markFewRow = true := by
  unfold joinedFacts
  exact (andT (andT (andT (andT (andT (andT (andT (andT (andT (andT (andT (andT (andT (andT (andT (andT (andT (andT (andT (andT (andT (andT (andT (andT (andT (andT (andT (andT (andT (andT (andT (by as_aux_lemma => kernel_rfl) Seat.laidOut) Seat.mapsRowed) (by as_aux_lemma => kernel_rfl)) (by as_aux_lemma => kernel_rfl)) (by as_aux_lemma => kernel_rfl)) Seat.stops) (by as_aux_lemma => kernel_rfl)) Seat.knobs) (by as_aux_lemma => kernel_rfl)) (by as_aux_lemma => kernel_rfl)) (by as_aux_lemma => kernel_rfl)) (by as_aux_lemma => kernel_rfl)) (by as_aux_lemma => kernel_rfl)) (by as_aux_lemma => kernel_rfl)) (by as_aux_lemma => kernel_rfl)) (by as_aux_lemma => kernel_rfl)) (by as_aux_lemma => kernel_rfl)) (by as_aux_lemma => kernel_rfl)) (by as_aux_lemma => kernel_rfl)) (by as_aux_lemma => kernel_rfl)) (by as_aux_lemma => kernel_rfl)) (by as_aux_lemma => kernel_rfl)) (by as_aux_lemma => kernel_rfl)) Seat.heard) Seat.mayEnter) (by rw [Seat.lifts]; rfl)) (by rw [Seat.made]; rfl)) (by as_aux_lemma => kernel_rfl)) (by as_aux_lemma => kernel_rfl)) (by as_aux_lemma => kernel_rfl)) (by as_aux_lemma => kernel_rfl))

theorem markFew_holds : Rows.MarkFewSaid :=
  OpenClaim.holds_of_wide 4 Go.Proofs.Tryd.f4 rfl rfl rfl rfl rfl rfl rfl ⟨rfl, rfl, rfl, rfl, rfl⟩ rfl rfl rfl rfl rfl (by kernel_rfl) Go.Proofs.Tryd.func4 joined
    (of_decide_eq_true (by kernel_rfl)) (by unfold Func.isWrapper; first | (rw [if_pos (by decide +kernel)]; kernel_rfl) | (rw [if_neg (by decide +kernel)]; exact ⟨rfl, rfl⟩))
    (fun os started H enc _ => lifted os started H enc)

theorem noStand : ((Go.Proofs.Tryd.f4.params.toList).all fun t => !Go.Proofs.Tryd.prog.wantsStandIn t) = true := by kernel_rfl
theorem markFewCard_holds : Rows.MarkFewCardSaid :=
  Claim7.holds_tied_plain_at .later [] [.data] true (true, "c88e0687c222961115da2a84d0fc17cee095a0dd0289832c0327b0b27169c1bb") true
    markFew_holds (fun _ h => by cases h) (by kernel_rfl) (fun _ h => by cases h) markFew_row_tie rfl ⟨rfl, rfl⟩ (by kernel_rfl) rfl
    (fun f fn hf hfn => by
      obtain rfl : f = 4 := Option.some.inj (hf.symm.trans (by kernel_rfl))
      obtain rfl : fn = Go.Proofs.Tryd.f4 := Option.some.inj (hfn.symm.trans Go.Proofs.Tryd.func4)
      refine ⟨by kernel_rfl, fun j t ht => ?_⟩
      have hm := List.all_eq_true.1 noStand t (List.mem_of_getElem? (by rw [Array.getElem?_toList]; exact ht))
      exact (show Go.Proofs.Tryd.prog.wantsStandIn t = false by simpa using hm))
    (by kernel_rfl)

#print axioms markFewCard_holds
end Go.Proofs.YthhfccnhkadkcaaDoor
