/- How much may be changed: the functions of the package mask, and the correlations of the package mark. -/
import Derived.Test.YthhfccnhkadkcaaDoorGive

/- How much may be changed: plain functions. -/
namespace Go.SL.S
open Go Go.SL
def mayM (s : List Int) (b : Int) : Bool := rightF s && (decide (0 ≤ b) && decide (b < 8))
def slopeX (x steep bands : Int) : Int := x / 2 ^ (steep * bands).toNat
def budX (s : List Int) (b : Int) (j : Nat) : Int := if (j : Int) ≤ b then slopeX (4 * 2 ^ (s.getD j 0).toNat) 1 (b - (j : Int)) else slopeX (4 * 2 ^ (s.getD j 0).toNat) 2 ((j : Int) - b)
def budTo (s : List Int) (b : Int) : Nat → Int
  | 0 => 0
  | j + 1 => max (budTo s b j) (budX s b j)
def budF (s : List Int) (b : Int) : Int := if mayM s b then budTo s b 8 else 0
def movF (s : List Int) (b : Int) : Int := if mayM s b then budTo s b 8 / 2 ^ (s.getD b.toNat 0).toNat else 0
def absZ (x : Int) : Int := max x (-x)
def farM (y z : List Int) : Nat → Int
  | 0 => 0
  | n + 1 => farM y z n + absZ (y.getD n 0 - z.getD n 0)
def smallV (y : List Int) : Prop := ∀ i, i < 4 → -1000 ≤ y.getD i 0 ∧ y.getD i 0 ≤ 1000
def mayV (s : List Int) (b : Int) (y z : List Int) : Bool := mayM s b && decide (farM y z 4 ≤ movF s b)
def dotZ (y c : List Int) : Nat → Int
  | 0 => 0
  | n + 1 => dotZ y c n + y.getD n 0 * c.getD n 0
end Go.SL.S

/- Functions and what they are held to do: bound to their code. -/
namespace Go.SL.A
open Go Go.SL Go.SL.S
set_option maxRecDepth 100000
noncomputable def Cd129 : Ctx := ⟨Go.Proofs.Tryd.prog, D, G62, (fun _ _ => none), fun _ => []⟩
def annd129 (_x _n _st : Int) : Nat → St → Option Ann := fun _ _ => none
def outd129 (x n st : Int) : COut := ⟨[0 ≤ x ∧ x ≤ 1000000000 ∧ 0 ≤ st ∧ st ≤ 2 ∧ 0 ≤ n ∧ n ≤ 8], .v (.int .i64) (slopeX x st n), [], []⟩
def spd129 : Spec := fun args ins => match args, ins with
  | [⟨.int .i64, x⟩, ⟨.int .i64, n⟩, ⟨.ref .ptr, .ptr 0 (.int .i64) [0]⟩], [⟨false, true, .int .i64, [st]⟩] => some (outd129 x n st)
  | _, _ => none
def Gd129 := addG G62 129 spd129
def Pd129 (x n st : Int) : Prop :=
  (0 : Int) ≤ IntKind.wrap IntKind.i64 (st * n) ∧ ishr IntKind.i64 x (IntKind.wrap IntKind.i64 (st * n)) = slopeX x st n ∧ st = st ∧ false = false
theorem vcd129 (x n st : Int) : Pd129 x n st = vcFun Cd129 (annd129 x n st) Go.Proofs.Tryd.f129 [⟨.int .i64, x⟩, ⟨.int .i64, n⟩, ⟨.ref .ptr, .ptr 0 (.int .i64) [0]⟩] [⟨false, true, .int .i64, [st]⟩] (outd129 x n st) := by kernel_rfl

noncomputable def Cd110 : Ctx := ⟨Go.Proofs.Tryd.prog, D, Gd129, (fun _ _ => none), fun _ => []⟩
def annd110 (_st : Int) : Nat → St → Option Ann := fun _ _ => none
def outd110 (st : Int) : COut := ⟨[], .v (.ref .func) (.func (.func 129) [] [.ptr 0 (.int .i64) [0]]), [], [⟨false, true, .int .i64, [st]⟩]⟩
def spd110 : Spec := fun args ins => match args, ins with
  | [⟨.int .i64, st⟩], [] => some (outd110 st)
  | _, _ => none
def Gd110 := addG Gd129 110 spd110
def Pd110 (st : Int) : Prop :=
  (0 : Nat) = (0 : Nat) ∧ st = st ∧ false = false
theorem vcd110 (st : Int) : Pd110 st = vcFun Cd110 (annd110 st) Go.Proofs.Tryd.f110 [⟨.int .i64, st⟩] [] (outd110 st) := by kernel_rfl

noncomputable def Cd70 : Ctx := ⟨Go.Proofs.Tryd.prog, D, Gd110, (fun _ _ => none), fun _ => []⟩
def annd70 (_s : List Int) (_b : Int) : Nat → St → Option Ann := fun _ _ => none
def outd70 (s : List Int) (b : Int) : COut := ⟨[], .v .bool (mayM s b), [], []⟩
def spd70 : Spec := fun args ins => match args, ins with
  | [⟨.arr 8 (.int .i64), s⟩, ⟨.int .i64, b⟩], [] => some (outd70 s b)
  | _, _ => none
def Gd70 := addG Gd110 70 spd70
def Pd70 (s : List Int) (b : Int) : Prop :=
  ∀ (b_1 : Bool), rightF s = b_1 → ∀ (b_2 : Bool), (bif b_1 then decide ((0 : Int) ≤ b) else false) = b_2 → ((b_1 = true → b_1 = true) ∧ (b_1 = true → b_1 = true) ∧ (b_2 = true → b_2 = true) ∧ (b_2 = true → b_2 = true)) ∧
  (bif b_2 then decide (b < (8 : Int)) else false) = mayM s b
theorem vcd70 (s : List Int) (b : Int) : Pd70 s b = vcFun Cd70 (annd70 s b) Go.Proofs.Tryd.f70 [⟨.arr 8 (.int .i64), s⟩, ⟨.int .i64, b⟩] [] (outd70 s b) := by kernel_rfl

noncomputable def Cd83 : Ctx := ⟨Go.Proofs.Tryd.prog, D, Gd70, (fun _ _ => none), fun _ => []⟩
def annd83 (s : List Int) (b : Int) : Nat → St → Option Ann := fun _ _ => some ⟨Nat, [1, 5, 6, 17], [1, 2], fun j => [(18, .v (.int .i64) (j : Int)), (7, .v (.int .i64) (budTo s b j))], fun _ => [], fun j => j ≤ 8, fun j => 8 - j⟩
def outd83 (s : List Int) (b : Int) : COut := ⟨[], .v (.int .i64) (budF s b), [], []⟩
def spd83 : Spec := fun args ins => match args, ins with
  | [⟨.arr 8 (.int .i64), s⟩, ⟨.int .i64, b⟩], [] => some (outd83 s b)
  | _, _ => none
def Gd83 := addG Gd70 83 spd83
def Pd83 (s : List Int) (b : Int) : Prop :=
  bif !mayM s b then (0 : Int) = budF s b else ∃ (x : Nat), ((b = b ∧ (0 : Nat) = (0 : Nat) ∧ (0 : Nat) = (0 : Nat) ∧ (0 : Int) = budTo s b x ∧ s = s ∧ (0 : Int) = (↑x : Int) ∧ (1 : Int) = (1 : Int) ∧ false = false ∧ (2 :
  Int) = (2 : Int) ∧ false = false) ∧ x ≤ (8 : Nat)) ∧ ∀ (x : Nat), x ≤ (8 : Nat) → IntKind.min IntKind.i64 ≤ (↑x : Int) ∧ (↑x : Int) ≤ IntKind.max IntKind.i64 ∧ IntKind.min IntKind.i64 ≤ budTo s b x ∧ budTo s b x ≤
  IntKind.max IntKind.i64 → bif decide ((↑x : Int) < (8 : Int)) then ((0 : Int) ≤ (↑x : Int) ∧ (↑x : Int) < (↑(8 : Nat) : Int)) ∧ (0 : Int) ≤ List.getD s (Int.toNat (↑x : Int)) (0 : Int) ∧ bif decide ((↑x : Int) ≤ b) then
  ((0 : Int) ≤ ishl IntKind.i64 (4 : Int) (List.getD s (Int.toNat (↑x : Int)) (0 : Int)) ∧ ishl IntKind.i64 (4 : Int) (List.getD s (Int.toNat (↑x : Int)) (0 : Int)) ≤ (1000000000 : Int) ∧ (0 : Int) ≤ (1 : Int) ∧ (1 : Int) ≤
  (2 : Int) ∧ (0 : Int) ≤ IntKind.wrap IntKind.i64 (b - (↑x : Int)) ∧ IntKind.wrap IntKind.i64 (b - (↑x : Int)) ≤ (8 : Int)) ∧ ∃ (y : Nat), (b = b ∧ (0 : Nat) = (0 : Nat) ∧ (0 : Nat) = (0 : Nat) ∧ max (budTo s b x) (slopeX
  (ishl IntKind.i64 (4 : Int) (List.getD s (Int.toNat (↑x : Int)) (0 : Int))) (1 : Int) (IntKind.wrap IntKind.i64 (b - (↑x : Int)))) = budTo s b y ∧ s = s ∧ IntKind.wrap IntKind.i64 ((↑x : Int) + (1 : Int)) = (↑y : Int) ∧
  (1 : Int) = (1 : Int) ∧ false = false ∧ (2 : Int) = (2 : Int) ∧ false = false) ∧ y ≤ (8 : Nat) ∧ (8 : Nat) - y < (8 : Nat) - x else ((0 : Int) ≤ ishl IntKind.i64 (4 : Int) (List.getD s (Int.toNat (↑x : Int)) (0 : Int)) ∧
  ishl IntKind.i64 (4 : Int) (List.getD s (Int.toNat (↑x : Int)) (0 : Int)) ≤ (1000000000 : Int) ∧ (0 : Int) ≤ (2 : Int) ∧ (2 : Int) ≤ (2 : Int) ∧ (0 : Int) ≤ IntKind.wrap IntKind.i64 ((↑x : Int) - b) ∧ IntKind.wrap
  IntKind.i64 ((↑x : Int) - b) ≤ (8 : Int)) ∧ ∃ (y : Nat), (b = b ∧ (0 : Nat) = (0 : Nat) ∧ (0 : Nat) = (0 : Nat) ∧ max (budTo s b x) (slopeX (ishl IntKind.i64 (4 : Int) (List.getD s (Int.toNat (↑x : Int)) (0 : Int))) (2 :
  Int) (IntKind.wrap IntKind.i64 ((↑x : Int) - b))) = budTo s b y ∧ s = s ∧ IntKind.wrap IntKind.i64 ((↑x : Int) + (1 : Int)) = (↑y : Int) ∧ (1 : Int) = (1 : Int) ∧ false = false ∧ (2 : Int) = (2 : Int) ∧ false = false) ∧ y
  ≤ (8 : Nat) ∧ (8 : Nat) - y < (8 : Nat) - x else budTo s b x = budF s b
theorem vcd83 (s : List Int) (b : Int) : Pd83 s b = vcFun Cd83 (annd83 s b) Go.Proofs.Tryd.f83 [⟨.arr 8 (.int .i64), s⟩, ⟨.int .i64, b⟩] [] (outd83 s b) := by kernel_rfl

noncomputable def Cd48 : Ctx := ⟨Go.Proofs.Tryd.prog, D, Gd83, (fun _ _ => none), fun _ => []⟩
def annd48 (_s : List Int) (_b : Int) : Nat → St → Option Ann := fun _ _ => none
def outd48 (s : List Int) (b : Int) : COut := ⟨[], .v (.int .i64) (movF s b), [], []⟩
def spd48 : Spec := fun args ins => match args, ins with
  | [⟨.arr 8 (.int .i64), s⟩, ⟨.int .i64, b⟩], [] => some (outd48 s b)
  | _, _ => none
def Gd48 := addG Gd83 48 spd48
def Pd48 (s : List Int) (b : Int) : Prop :=
  bif !mayM s b then (0 : Int) = movF s b else (((0 : Int) ≤ b ∧ b < (↑(8 : Nat) : Int)) ∧ Int.toNat b < (8 : Nat) ∧ (0 : Int) ≤ List.getD s (Int.toNat b) (0 : Int)) ∧ ishr IntKind.i64 (budF s b) (List.getD s (Int.toNat b)
  (0 : Int)) = movF s b
theorem vcd48 (s : List Int) (b : Int) : Pd48 s b = vcFun Cd48 (annd48 s b) Go.Proofs.Tryd.f48 [⟨.arr 8 (.int .i64), s⟩, ⟨.int .i64, b⟩] [] (outd48 s b) := by kernel_rfl

noncomputable def Cd31 : Ctx := ⟨Go.Proofs.Tryd.prog, D, Gd48, (fun _ _ => none), fun _ => []⟩
def annd31 (y z : List Int) : Nat → St → Option Ann := fun _ _ => some ⟨Nat, [2, 3], [0, 1], fun i => [(7, .v (.int .i64) (i : Int)), (5, .v (.int .i64) (farM y z i))], fun _ => [], fun i => i ≤ 4, fun i => 4 - i⟩
def outd31 (y z : List Int) : COut := ⟨[smallV y ∧ smallV z], .v (.int .i64) (farM y z 4), [], []⟩
def spd31 : Spec := fun args ins => match args, ins with
  | [⟨.arr 4 (.int .i64), y⟩, ⟨.arr 4 (.int .i64), z⟩], [] => some (outd31 y z)
  | _, _ => none
def Gd31 := addG Gd48 31 spd31
def Pd31 (y z : List Int) : Prop :=
  ∃ (x : Nat), (((0 : Nat) = (0 : Nat) ∧ (0 : Nat) = (0 : Nat) ∧ (0 : Int) = farM y z x ∧ (0 : Int) = (↑x : Int) ∧ y = y ∧ false = false ∧ z = z ∧ false = false) ∧ x ≤ (4 : Nat)) ∧ ∀ (x : Nat), x ≤ (4 : Nat) → IntKind.min
  IntKind.i64 ≤ (↑x : Int) ∧ (↑x : Int) ≤ IntKind.max IntKind.i64 ∧ IntKind.min IntKind.i64 ≤ farM y z x ∧ farM y z x ≤ IntKind.max IntKind.i64 → bif decide ((↑x : Int) < (4 : Int)) then ∀ (b : Bool), decide ((1048576 :
  Int) < max (max (max (List.getD y (Int.toNat (↑x : Int)) (0 : Int)) (IntKind.wrap IntKind.i64 ((0 : Int) - List.getD y (Int.toNat (↑x : Int)) (0 : Int)))) (List.getD z (Int.toNat (↑x : Int)) (0 : Int))) (IntKind.wrap
  IntKind.i64 ((0 : Int) - List.getD z (Int.toNat (↑x : Int)) (0 : Int)))) = b → (((0 : Int) ≤ (↑x : Int) ∧ (↑x : Int) < (↑(4 : Nat) : Int)) ∧ Int.toNat (↑x : Int) < (4 : Nat) ∧ ((0 : Int) ≤ (↑x : Int) ∧ (↑x : Int) < (↑(4 :
  Nat) : Int)) ∧ Int.toNat (↑x : Int) < (4 : Nat) ∧ ((0 : Int) ≤ (↑x : Int) ∧ (↑x : Int) < (↑(4 : Nat) : Int)) ∧ Int.toNat (↑x : Int) < (4 : Nat) ∧ ((0 : Int) ≤ (↑x : Int) ∧ (↑x : Int) < (↑(4 : Nat) : Int)) ∧ Int.toNat (↑x
  : Int) < (4 : Nat) ∧ ((!b) = true → (!b) = true ∧ (0 : Int) ≤ (↑x : Int) ∧ (↑x : Int) < (↑(4 : Nat) : Int)) ∧ ((!b) = true → (!b) = true ∧ Int.toNat (↑x : Int) < (4 : Nat)) ∧ ((!b) = true → (!b) = true ∧ (0 : Int) ≤ (↑x :
  Int) ∧ (↑x : Int) < (↑(4 : Nat) : Int)) ∧ ((!b) = true → (!b) = true ∧ Int.toNat (↑x : Int) < (4 : Nat)) ∧ ((!b) = true → (!b) = true ∧ (!b) = true) ∧ ((!b) = true → (!b) = true) ∧ (b = false → (!b) = true)) ∧ bif bif b
  then true else decide (min (List.getD y (Int.toNat (↑x : Int)) (0 : Int)) (List.getD z (Int.toNat (↑x : Int)) (0 : Int)) < (-1048576 : Int)) then (-1 : Int) = farM y z (4 : Nat) else (((0 : Int) ≤ (↑x : Int) ∧ (↑x : Int)
  < (↑(4 : Nat) : Int)) ∧ Int.toNat (↑x : Int) < (4 : Nat) ∧ ((0 : Int) ≤ (↑x : Int) ∧ (↑x : Int) < (↑(4 : Nat) : Int)) ∧ Int.toNat (↑x : Int) < (4 : Nat) ∧ ((0 : Int) ≤ (↑x : Int) ∧ (↑x : Int) < (↑(4 : Nat) : Int)) ∧
  Int.toNat (↑x : Int) < (4 : Nat) ∧ ((0 : Int) ≤ (↑x : Int) ∧ (↑x : Int) < (↑(4 : Nat) : Int)) ∧ Int.toNat (↑x : Int) < (4 : Nat)) ∧ ∃ (y_1 : Nat), ((0 : Nat) = (0 : Nat) ∧ (0 : Nat) = (0 : Nat) ∧ IntKind.wrap IntKind.i64
  (farM y z x + max (IntKind.wrap IntKind.i64 (List.getD y (Int.toNat (↑x : Int)) (0 : Int) - List.getD z (Int.toNat (↑x : Int)) (0 : Int))) (IntKind.wrap IntKind.i64 (List.getD z (Int.toNat (↑x : Int)) (0 : Int) -
  List.getD y (Int.toNat (↑x : Int)) (0 : Int)))) = farM y z y_1 ∧ IntKind.wrap IntKind.i64 ((↑x : Int) + (1 : Int)) = (↑y_1 : Int) ∧ y = y ∧ false = false ∧ z = z ∧ false = false) ∧ y_1 ≤ (4 : Nat) ∧ (4 : Nat) - y_1 < (4 :
  Nat) - x else farM y z x = farM y z (4 : Nat)
theorem vcd31 (y z : List Int) : Pd31 y z = vcFun Cd31 (annd31 y z) Go.Proofs.Tryd.f31 [⟨.arr 4 (.int .i64), y⟩, ⟨.arr 4 (.int .i64), z⟩] [] (outd31 y z) := by kernel_rfl

noncomputable def Cd30 : Ctx := ⟨Go.Proofs.Tryd.prog, D, Gd31, (fun _ _ => none), fun _ => []⟩
def annd30 (_s : List Int) (_b : Int) (_y _z : List Int) : Nat → St → Option Ann := fun _ _ => none
def outd30 (s : List Int) (b : Int) (y z : List Int) : COut := ⟨[smallV y ∧ smallV z], .v .bool (mayV s b y z), [], []⟩
def spd30 : Spec := fun args ins => match args, ins with
  | [⟨.arr 8 (.int .i64), s⟩, ⟨.int .i64, b⟩, ⟨.arr 4 (.int .i64), y⟩, ⟨.arr 4 (.int .i64), z⟩], [] => some (outd30 s b y z)
  | _, _ => none
def Gd30 := addG Gd31 30 spd30
def Pd30 (s : List Int) (b : Int) (y z : List Int) : Prop :=
  (smallV y ∧ smallV z) ∧ ∀ (b_1 : Bool), mayM s b = b_1 → bif bif b_1 then decide ((0 : Int) ≤ farM y z (4 : Nat)) else false then ((b_1 = true → b_1 = true) ∧ (b_1 = true → b_1 = true)) ∧ decide (farM y z (4 : Nat) ≤ movF
  s b) = mayV s b y z else ((b_1 = true → b_1 = true) ∧ (b_1 = true → b_1 = true) ∧ (false = true → false = true)) ∧ false = mayV s b y z
theorem vcd30 (s : List Int) (b : Int) (y z : List Int) : Pd30 s b y z = vcFun Cd30 (annd30 s b y z) Go.Proofs.Tryd.f30 [⟨.arr 8 (.int .i64), s⟩, ⟨.int .i64, b⟩, ⟨.arr 4 (.int .i64), y⟩, ⟨.arr 4 (.int .i64), z⟩] [] (outd30 s b y z) := by kernel_rfl

end Go.SL.A

/- How much may be changed. -/
namespace Go.SL.A
open Go Go.SL Go.SL.S
set_option maxRecDepth 100000

theorem right_get {s : List Int} (h : rightF s = true) (j : Nat) : 0 ≤ s.getD j 0 ∧ s.getD j 0 ≤ 15 := by
  by_cases hj : j < s.length
  · unfold rightF at h
    rw [Bool.not_eq_true', List.any_eq_false] at h
    have := h _ (getD_mem (d := 0) hj)
    unfold badF at this
    simp only [Bool.or_eq_true, decide_eq_true_eq] at this
    omega
  · rw [List.getD_eq_getElem?_getD, List.getElem?_eq_none (by omega)]; simp
theorem mayM_ok {s : List Int} {b : Int} (h : mayM s b = true) : rightF s = true ∧ 0 ≤ b ∧ b < 8 := by
  unfold mayM at h
  rw [Bool.and_eq_true, Bool.and_eq_true, decide_eq_true_eq, decide_eq_true_eq] at h
  exact h
theorem shl4 {t : Int} (h : 0 ≤ t ∧ t ≤ 15) : ishl .i64 4 t = 4 * 2 ^ t.toNat ∧ 0 ≤ (4 : Int) * 2 ^ t.toNat ∧ (4 : Int) * 2 ^ t.toNat ≤ 131072 := by
  obtain ⟨n, rfl⟩ : ∃ n : Nat, t = n := ⟨t.toNat, by omega⟩
  have all : ((List.range 16).all fun n : Nat => decide (ishl .i64 4 (n : Int) = 4 * 2 ^ (n : Int).toNat ∧ 0 ≤ (4 : Int) * 2 ^ (n : Int).toNat ∧ (4 : Int) * 2 ^ (n : Int).toNat ≤ 131072)) = true := by decide +kernel
  exact of_decide_eq_true (List.all_eq_true.1 all n (List.mem_range.2 (by omega)))
theorem ishr_pow {x m : Int} (hm : 0 ≤ m ∧ m ≤ 64) : ishr .i64 x m = x / 2 ^ m.toNat := by
  unfold ishr
  have e : min m.toNat IntKind.i64.bits = m.toNat := by
    have : IntKind.i64.bits = 64 := rfl
    omega
  rw [e, Int.fdiv_eq_ediv_of_nonneg _ (Int.le_of_lt (Int.pow_pos (by decide)))]
theorem st_mul {st n : Int} (hs : 0 ≤ st ∧ st ≤ 2) (hn : 0 ≤ n ∧ n ≤ 8) : 0 ≤ st * n ∧ st * n ≤ 16 := by
  rcases (show st = 0 ∨ st = 1 ∨ st = 2 by omega) with rfl | rfl | rfl <;> omega

theorem pured129 (x n st : Int) (hp : 0 ≤ x ∧ x ≤ 1000000000 ∧ 0 ≤ st ∧ st ≤ 2 ∧ 0 ≤ n ∧ n ≤ 8) : Pd129 x n st := by
  obtain ⟨h1, h2, h3, h4, h5, h6⟩ := hp
  have hm := st_mul ⟨h3, h4⟩ ⟨h5, h6⟩
  unfold Pd129
  rw [w64 (n := st * n) (by omega) (by omega), ishr_pow (by omega)]
  exact ⟨hm.1, rfl, rfl, rfl⟩
theorem pured110 (st : Int) : Pd110 st := by
  unfold Pd110; trivial
theorem pured70 (s : List Int) (b : Int) : Pd70 s b := by
  unfold Pd70
  rintro _ rfl _ rfl
  refine ⟨by cases rightF s <;> simp, ?_⟩
  unfold mayM
  cases rightF s <;> cases decide (0 ≤ b) <;> rfl

theorem hwd83 {s : List Int} {b : Int} (hw : Go.SL.allP (List.flatMap (fun a : AV => a.t.wf a.x) [⟨.arr 8 (.int .i64), s⟩, ⟨.int .i64, b⟩] ++ List.flatMap Blk.wf [])) : s.length = 8 := by
  simp only [List.flatMap_cons, List.flatMap_nil, Ty.wf, List.append_nil, List.cons_append, List.nil_append, Go.SL.allP] at hw
  exact hw.1
theorem slope_fit {x st n : Int} (hx : 0 ≤ x) : 0 ≤ slopeX x st n ∧ slopeX x st n ≤ x := by
  unfold slopeX
  exact ⟨Int.ediv_nonneg hx (Int.le_of_lt (Int.pow_pos (by decide))), Int.ediv_le_self _ hx⟩
theorem bud_fit {s : List Int} (h : rightF s = true) (b : Int) : ∀ j, 0 ≤ budTo s b j ∧ budTo s b j ≤ 131072
  | 0 => by simp [budTo]
  | j + 1 => by
    have ih := bud_fit h b j
    obtain ⟨-, h2, h3⟩ := shl4 (right_get h j)
    have h4 : 0 ≤ budX s b j ∧ budX s b j ≤ 131072 := by
      unfold budX
      split
      · have := slope_fit (st := 1) (n := b - (j : Int)) h2; omega
      · have := slope_fit (st := 2) (n := (j : Int) - b) h2; omega
    rw [budTo]; omega
theorem pured83 (s : List Int) (b : Int) (_hl : s.length = 8) : Pd83 s b := by
  unfold Pd83
  cases hm : mayM s b with
  | false =>
    rw [Bool.not_false, cond_true]
    unfold budF; rw [hm]; rfl
  | true =>
    obtain ⟨hr, hb0, hb8⟩ := mayM_ok hm
    rw [Bool.not_true, cond_false]
    simp only [eq_self, true_and, and_true, Int.toNat_natCast]
    refine ⟨0, ⟨⟨rfl, rfl⟩, by omega⟩, fun j hj hw => ?_⟩
    clear hw
    by_cases h : (j : Int) < 8
    · have hs := right_get hr j
      obtain ⟨e1, e2, e3⟩ := shl4 hs
      have hst : budTo s b (j + 1) = max (budTo s b j) (budX s b j) := rfl
      rw [decide_eq_true h, cond_true, e1]
      refine ⟨⟨by omega, by omega⟩, hs.1, ?_⟩
      unfold budX at hst
      by_cases h2 : (j : Int) ≤ b
      · rw [if_pos h2] at hst
        rw [decide_eq_true h2, cond_true, w64 (n := b - (j : Int)) (by omega) (by omega)]
        exact ⟨⟨e2, by omega, by omega, by omega, by omega, by omega⟩, j + 1, ⟨hst.symm, step_i (by omega)⟩, by omega, by omega⟩
      · rw [if_neg h2] at hst
        rw [decide_eq_false h2, cond_false, w64 (n := (j : Int) - b) (by omega) (by omega)]
        exact ⟨⟨e2, by omega, by omega, by omega, by omega, by omega⟩, j + 1, ⟨hst.symm, step_i (by omega)⟩, by omega, by omega⟩
    · have : j = 8 := by omega
      subst this
      rw [decide_eq_false h, cond_false]
      unfold budF; rw [hm]; rfl
theorem pured48 (s : List Int) (b : Int) (_hl : s.length = 8) : Pd48 s b := by
  unfold Pd48
  cases hm : mayM s b with
  | false =>
    rw [Bool.not_false, cond_true]
    unfold movF; rw [hm]; rfl
  | true =>
    obtain ⟨hr, hb0, hb8⟩ := mayM_ok hm
    have hs := right_get hr b.toNat
    rw [Bool.not_true, cond_false, ishr_pow (by omega)]
    refine ⟨⟨⟨hb0, by omega⟩, by omega, hs.1⟩, ?_⟩
    unfold movF budF
    rw [hm]; rfl

theorem far_fitM {y z : List Int} (hy : smallV y) (hz : smallV z) : ∀ n, n ≤ 4 → 0 ≤ farM y z n ∧ farM y z n ≤ 2000 * (n : Int)
  | 0, _ => by simp [farM]
  | n + 1, h => by
    have ih := far_fitM hy hz n (by omega)
    have h1 := hy n (by omega)
    have h2 := hz n (by omega)
    rw [farM]
    unfold absZ
    omega
theorem pured31 (y z : List Int) (hp : smallV y ∧ smallV z) : Pd31 y z := by
  obtain ⟨hy, hz⟩ := hp
  unfold Pd31
  simp only [eq_self, true_and, and_true, Int.toNat_natCast]
  refine ⟨0, ⟨⟨rfl, rfl⟩, by omega⟩, fun i hi hw => ?_⟩
  clear hw
  by_cases h : (i : Int) < 4
  · have h1 := hy i (by omega)
    have h2 := hz i (by omega)
    have hf := far_fitM hy hz i hi
    have hst : farM y z (i + 1) = farM y z i + absZ (y.getD i 0 - z.getD i 0) := rfl
    unfold absZ at hst
    rw [decide_eq_true h, cond_true]
    have e1 : IntKind.i64.wrap (0 - y.getD i 0) = 0 - y.getD i 0 := w64 (by omega) (by omega)
    have e2 : IntKind.i64.wrap (0 - z.getD i 0) = 0 - z.getD i 0 := w64 (by omega) (by omega)
    have e3 : IntKind.i64.wrap (y.getD i 0 - z.getD i 0) = y.getD i 0 - z.getD i 0 := w64 (by omega) (by omega)
    have e4 : IntKind.i64.wrap (z.getD i 0 - y.getD i 0) = z.getD i 0 - y.getD i 0 := w64 (by omega) (by omega)
    simp only [e1, e2, e3, e4]
    intro b hb
    have hb : false = b := by rw [← hb]; exact (decide_eq_false (by omega)).symm
    subst hb
    refine ⟨by simp; omega, ?_⟩
    have hm : decide (min (y.getD i 0) (z.getD i 0) < -1048576) = false := decide_eq_false (by omega)
    rw [cond_false, hm, cond_false]
    exact ⟨⟨⟨by omega, by omega⟩, by omega, ⟨by omega, by omega⟩, by omega, ⟨by omega, by omega⟩, by omega, ⟨by omega, by omega⟩, by omega⟩, i + 1, ⟨by rw [w64 (by omega) (by omega)]; omega, step_i (by omega)⟩, by omega, by omega⟩
  · have : i = 4 := by omega
    subst this
    rw [decide_eq_false h, cond_false]
theorem pured30 (s : List Int) (b : Int) (y z : List Int) (hp : smallV y ∧ smallV z) : Pd30 s b y z := by
  unfold Pd30
  have hf := far_fitM hp.1 hp.2 4 (Nat.le_refl _)
  refine ⟨hp, ?_⟩
  rw [decide_eq_true hf.1]
  rintro _ rfl
  unfold mayV
  cases mayM s b <;> simp
end Go.SL.A

/- Functions do what they are held to do. -/
namespace Go.SL.A
open Go Go.SL Go.SL.S
theorem sndd129 : Sound Go.Proofs.Tryd.prog Gd129 := snd62.add ⟨_, Go.Proofs.Tryd.func129, by kernel_rfl, by kernel_rfl⟩ (by
  intro args ins out h hp
  unfold spd129 at h
  split at h
  · rename_i x n st
    cases h
    exact vcFun_ok (C := Cd129) good snd62 Meth.none mix Go.Proofs.Tryd.func129 (annd129 x n st) (fun hw => by rw [← vcd129 x n st]; exact pured129 x n st hp)
  · cases h)

theorem sndd110 : Sound Go.Proofs.Tryd.prog Gd110 := sndd129.add ⟨_, Go.Proofs.Tryd.func110, by kernel_rfl, by kernel_rfl⟩ (by
  intro args ins out h hp
  unfold spd110 at h
  split at h
  · rename_i st
    cases h
    exact vcFun_ok (C := Cd110) good sndd129 Meth.none mix Go.Proofs.Tryd.func110 (annd110 st) (fun hw => by rw [← vcd110 st]; exact pured110 st)
  · cases h)

theorem sndd70 : Sound Go.Proofs.Tryd.prog Gd70 := sndd110.add ⟨_, Go.Proofs.Tryd.func70, by kernel_rfl, by kernel_rfl⟩ (by
  intro args ins out h hp
  unfold spd70 at h
  split at h
  · rename_i s b
    cases h
    exact vcFun_ok (C := Cd70) good sndd110 Meth.none mix Go.Proofs.Tryd.func70 (annd70 s b) (fun hw => by rw [← vcd70 s b]; exact pured70 s b)
  · cases h)

theorem sndd83 : Sound Go.Proofs.Tryd.prog Gd83 := sndd70.add ⟨_, Go.Proofs.Tryd.func83, by kernel_rfl, by kernel_rfl⟩ (by
  intro args ins out h hp
  unfold spd83 at h
  split at h
  · rename_i s b
    cases h
    exact vcFun_ok (C := Cd83) good sndd70 Meth.none mix Go.Proofs.Tryd.func83 (annd83 s b) (fun hw => by rw [← vcd83 s b]; exact pured83 s b (hwd83 hw))
  · cases h)

theorem sndd48 : Sound Go.Proofs.Tryd.prog Gd48 := sndd83.add ⟨_, Go.Proofs.Tryd.func48, by kernel_rfl, by kernel_rfl⟩ (by
  intro args ins out h hp
  unfold spd48 at h
  split at h
  · rename_i s b
    cases h
    exact vcFun_ok (C := Cd48) good sndd83 Meth.none mix Go.Proofs.Tryd.func48 (annd48 s b) (fun hw => by rw [← vcd48 s b]; exact pured48 s b (hwd83 hw))
  · cases h)

theorem sndd31 : Sound Go.Proofs.Tryd.prog Gd31 := sndd48.add ⟨_, Go.Proofs.Tryd.func31, by kernel_rfl, by kernel_rfl⟩ (by
  intro args ins out h hp
  unfold spd31 at h
  split at h
  · rename_i y z
    cases h
    exact vcFun_ok (C := Cd31) good sndd48 Meth.none mix Go.Proofs.Tryd.func31 (annd31 y z) (fun hw => by rw [← vcd31 y z]; exact pured31 y z hp)
  · cases h)

theorem sndd30 : Sound Go.Proofs.Tryd.prog Gd30 := sndd31.add ⟨_, Go.Proofs.Tryd.func30, by kernel_rfl, by kernel_rfl⟩ (by
  intro args ins out h hp
  unfold spd30 at h
  split at h
  · rename_i s b y z
    cases h
    exact vcFun_ok (C := Cd30) good sndd31 Meth.none mix Go.Proofs.Tryd.func30 (annd30 s b y z) (fun hw => by rw [← vcd30 s b y z]; exact pured30 s b y z hp)
  · cases h)

end Go.SL.A

/- A frame's bit in its band: plain functions. -/
namespace Go.SL.S
open Go Go.SL
abbrev SHM : Type := List Int × List (List Int)
abbrev SR : Type := List Int × List Int × Int × List Int × Int
def okN (n : Int) : Bool := !(decide (n < -12) || decide (12 < n))
def okRow (y : List Int) : Bool := y.all okN
def heldB (Y : List (List Int)) : Bool := Y.all okRow
def rowZ (Y : List (List Int)) (b : Int) : List Int := Y.getD b.toNat (List.replicate 4 0)
def corrF (k : List Int) (f : Int) (s : SHM) : Int := if heldB s.2 then dotZ (rowZ s.2 (bandK k f)) (chipsK k f) 4 else 0
def spkF (c : Int) : Int := if 2 ≤ c then 1 else if c ≤ -2 then -1 else 0
def betF (x : SR) (z : List Int) : Bool := decide (2 ≤ dotZ z x.2.1 4) && (decide (farM x.1 z 4 ≤ x.2.2.1) && (decide (x.2.2.2.2 < 0) || decide (farM x.1 z 4 < x.2.2.2.2)))
def lookF (x : SR) (z : List Int) : SR := if betF x z then (x.1, x.2.1, x.2.2.1, z, farM x.1 z 4) else x
abbrev ES : Type := List Int × SR
def leafF (i left : Int) (st : ES) : ES :=
  if 0 < left then (List.set (List.set st.1 i.toNat left) i.toNat (-left), lookF (lookF st.2 (List.set st.1 i.toNat left)) (List.set (List.set st.1 i.toNat left) i.toNat (-left)))
  else (List.set st.1 i.toNat left, lookF st.2 (List.set st.1 i.toNat left))
def posF (f : Int → ES → ES) (i left : Int) (j : Nat) (st : ES) : ES := f (left - (j : Int)) (List.set st.1 i.toNat (j : Int), st.2)
def negF (f : Int → ES → ES) (i left : Int) (j : Nat) (st : ES) : ES := if 0 < (j : Int) then f (left - (j : Int)) (List.set st.1 i.toNat (-(j : Int)), st.2) else st
def goF (f : Int → ES → ES) (i left : Int) (st : ES) : Nat → ES
  | 0 => st
  | j + 1 => negF f i left j (posF f i left j (goF f i left st j))
def eachF : Nat → Int → Int → ES → ES
  | 0, i, left, st => leafF i left st
  | n + 1, i, left, st => goF (eachF n (i + 1)) i left st (left + 1).toNat
end Go.SL.S

/- Functions and what they are held to do: bound to their code. -/
namespace Go.SL.A
open Go Go.SL Go.SL.S
set_option maxRecDepth 100000
noncomputable def Cd46 : Ctx := ⟨Go.Proofs.Tryd.prog, D, Gd30, (fun _ _ => none), fun _ => []⟩
def annd46 (s : List Int × List (List Int)) : Nat → St → Option Ann := fun id S => match id with | 0 => some ⟨Nat, [8], [], fun i => [(9, .v (.int .i64) (i : Int))], fun _ => [], fun i => i ≤ 8 ∧ heldB (s.2.take i) = true, fun i => 8 - i⟩ | _ => some ⟨Nat, [8, 9, 12], [], fun j => [(13, .v (.int .i64) (j : Int))], fun _ => [], fun j => j ≤ 4 ∧ okRow ((List.getD s.2 (S.i 9).toNat (List.replicate 4 0)).take j) = true, fun j => 4 - j⟩
def outd46 (s : List Int × List (List Int)) : COut := ⟨[], .v .bool (heldB s.2), [], []⟩
def spd46 : Spec := fun args ins => match args, ins with
  | [⟨(.cons (.arr 8 (.int .i64)) (.last (.arr 8 (.arr 4 (.int .i64))))), s⟩], [] => some (outd46 s)
  | _, _ => none
def Gd46 := addG Gd30 46 spd46
def Pd46 (s : List Int × List (List Int)) : Prop :=
  ∃ (x : Nat), ((Prod.snd s = Prod.snd s ∧ (0 : Int) = (↑x : Int)) ∧ x ≤ (8 : Nat) ∧ heldB (List.take x (Prod.snd s)) = true) ∧ ∀ (x : Nat), x ≤ (8 : Nat) ∧ heldB (List.take x (Prod.snd s)) = true → IntKind.min IntKind.i64
  ≤ (↑x : Int) ∧ (↑x : Int) ≤ IntKind.max IntKind.i64 → bif decide ((↑x : Int) < (8 : Int)) then ((0 : Int) ≤ (↑x : Int) ∧ (↑x : Int) < (↑(8 : Nat) : Int)) ∧ ∃ (x_1 : Nat), ((Prod.snd s = Prod.snd s ∧ (↑x : Int) = (↑x :
  Int) ∧ List.getD (Prod.snd s) (Int.toNat (↑x : Int)) (List.replicate (4 : Nat) (0 : Int)) = List.getD (Prod.snd s) (Int.toNat (↑x : Int)) (List.replicate (4 : Nat) (0 : Int)) ∧ (0 : Int) = (↑x_1 : Int)) ∧ x_1 ≤ (4 : Nat)
  ∧ okRow (List.take x_1 (List.getD (Prod.snd s) (Int.toNat (↑x : Int)) (List.replicate (4 : Nat) (0 : Int)))) = true) ∧ ∀ (x_2 : Nat), x_2 ≤ (4 : Nat) ∧ okRow (List.take x_2 (List.getD (Prod.snd s) (Int.toNat (↑x : Int))
  (List.replicate (4 : Nat) (0 : Int)))) = true → IntKind.min IntKind.i64 ≤ (↑x_2 : Int) ∧ (↑x_2 : Int) ≤ IntKind.max IntKind.i64 → bif decide ((↑x_2 : Int) < (4 : Int)) then ((0 : Int) ≤ (↑x_2 : Int) ∧ (↑x_2 : Int) < (↑(4
  : Nat) : Int)) ∧ ∀ (b : Bool), decide (List.getD (List.getD (Prod.snd s) (Int.toNat (↑x : Int)) (List.replicate (4 : Nat) (0 : Int))) (Int.toNat (↑x_2 : Int)) (0 : Int) < (-12 : Int)) = b → (((!b) = true → (!b) = true) ∧
  (b = false → (!b) = true)) ∧ bif bif b then true else decide ((12 : Int) < List.getD (List.getD (Prod.snd s) (Int.toNat (↑x : Int)) (List.replicate (4 : Nat) (0 : Int))) (Int.toNat (↑x_2 : Int)) (0 : Int)) then false =
  heldB (Prod.snd s) else ∃ (y : Nat), (Prod.snd s = Prod.snd s ∧ (↑x : Int) = (↑x : Int) ∧ List.getD (Prod.snd s) (Int.toNat (↑x : Int)) (List.replicate (4 : Nat) (0 : Int)) = List.getD (Prod.snd s) (Int.toNat (↑x : Int))
  (List.replicate (4 : Nat) (0 : Int)) ∧ IntKind.wrap IntKind.i64 ((↑x_2 : Int) + (1 : Int)) = (↑y : Int)) ∧ (y ≤ (4 : Nat) ∧ okRow (List.take y (List.getD (Prod.snd s) (Int.toNat (↑x : Int)) (List.replicate (4 : Nat) (0 :
  Int)))) = true) ∧ (4 : Nat) - y < (4 : Nat) - x_2 else ∃ (y : Nat), (Prod.snd s = Prod.snd s ∧ IntKind.wrap IntKind.i64 ((↑x : Int) + (1 : Int)) = (↑y : Int)) ∧ (y ≤ (8 : Nat) ∧ heldB (List.take y (Prod.snd s)) = true) ∧
  (8 : Nat) - y < (8 : Nat) - x else true = heldB (Prod.snd s)
theorem vcd46 (s : List Int × List (List Int)) : Pd46 s = vcFun Cd46 (annd46 s) Go.Proofs.Tryd.f46 [⟨(.cons (.arr 8 (.int .i64)) (.last (.arr 8 (.arr 4 (.int .i64))))), s⟩] [] (outd46 s) := by kernel_rfl

noncomputable def Cd49 : Ctx := ⟨Go.Proofs.Tryd.prog, D, Gd46, (fun _ _ => none), fun _ => []⟩
def annd49 (y c : List Int) : Nat → St → Option Ann := fun _ _ => some ⟨Nat, [2, 8], [0], fun i => [(9, .v (.int .i64) (i : Int)), (5, .v (.int .i64) (dotZ y c i))], fun _ => [], fun i => i ≤ 4, fun i => 4 - i⟩
def outd49 (y c : List Int) : COut := ⟨[smallV y ∧ smallV c], .v (.int .i64) (dotZ y c 4), [], []⟩
def spd49 : Spec := fun args ins => match args, ins with
  | [⟨.arr 4 (.int .i64), y⟩, ⟨.arr 4 (.int .i64), c⟩], [] => some (outd49 y c)
  | _, _ => none
def Gd49 := addG Gd46 49 spd49
def Pd49 (y c : List Int) : Prop :=
  ∃ (x : Nat), (((0 : Nat) = (0 : Nat) ∧ (0 : Int) = dotZ y c x ∧ c = c ∧ (0 : Int) = (↑x : Int) ∧ y = y ∧ false = false) ∧ x ≤ (4 : Nat)) ∧ ∀ (x : Nat), x ≤ (4 : Nat) → IntKind.min IntKind.i64 ≤ (↑x : Int) ∧ (↑x : Int) ≤
  IntKind.max IntKind.i64 ∧ IntKind.min IntKind.i64 ≤ dotZ y c x ∧ dotZ y c x ≤ IntKind.max IntKind.i64 → bif decide ((↑x : Int) < (4 : Int)) then ((0 : Int) ≤ (↑x : Int) ∧ (↑x : Int) < (↑(4 : Nat) : Int)) ∧ (((0 : Int) ≤
  (↑x : Int) ∧ (↑x : Int) < (↑(4 : Nat) : Int)) ∧ Int.toNat (↑x : Int) < (4 : Nat)) ∧ ∃ (y_1 : Nat), ((0 : Nat) = (0 : Nat) ∧ IntKind.wrap IntKind.i64 (dotZ y c x + IntKind.wrap IntKind.i64 (List.getD c (Int.toNat (↑x :
  Int)) (0 : Int) * List.getD y (Int.toNat (↑x : Int)) (0 : Int))) = dotZ y c y_1 ∧ c = c ∧ IntKind.wrap IntKind.i64 ((↑x : Int) + (1 : Int)) = (↑y_1 : Int) ∧ y = y ∧ false = false) ∧ y_1 ≤ (4 : Nat) ∧ (4 : Nat) - y_1 < (4
  : Nat) - x else dotZ y c x = dotZ y c (4 : Nat)
theorem vcd49 (y c : List Int) : Pd49 y c = vcFun Cd49 (annd49 y c) Go.Proofs.Tryd.f49 [⟨.arr 4 (.int .i64), y⟩, ⟨.arr 4 (.int .i64), c⟩] [] (outd49 y c) := by kernel_rfl

noncomputable def Cd16 : Ctx := ⟨Go.Proofs.Tryd.prog, D, Gd49, (fun _ _ => none), fun r => match Nat.beq r 3 with | true => [2, 8] | false => []⟩
def annd16 (_k : List Int) (_f : Int) (_s : List Int × List (List Int)) : Nat → St → Option Ann := fun _ _ => none
def outd16 (k : List Int) (f : Int) (s : List Int × List (List Int)) : COut := ⟨[], .v (.int .i64) (corrF k f s), [], []⟩
def spd16 : Spec := fun args ins => match args, ins with
  | [⟨.arr 16 (.int .u8), k⟩, ⟨.int .i64, f⟩, ⟨(.cons (.arr 8 (.int .i64)) (.last (.arr 8 (.arr 4 (.int .i64))))), s⟩], [] => some (outd16 k f s)
  | _, _ => none
def Gd16 := addG Gd49 16 spd16
def Pd16 (k : List Int) (f : Int) (s : List Int × List (List Int)) : Prop :=
  bif !heldB (Prod.snd s) then (0 : Int) = corrF k f s else ∀ (n : Int), bandK k f = n → (((0 : Int) ≤ n ∧ n < (↑(8 : Nat) : Int)) ∧ Int.toNat n < (8 : Nat) ∧ smallV (List.getD (Prod.snd s) (Int.toNat n) (List.replicate (4
  : Nat) (0 : Int))) ∧ smallV (chipsK k f)) ∧ dotZ (List.getD (Prod.snd s) (Int.toNat n) (List.replicate (4 : Nat) (0 : Int))) (chipsK k f) (4 : Nat) = corrF k f s
theorem vcd16 (k : List Int) (f : Int) (s : List Int × List (List Int)) : Pd16 k f s = vcFun Cd16 (annd16 k f s) Go.Proofs.Tryd.f16 [⟨.arr 16 (.int .u8), k⟩, ⟨.int .i64, f⟩, ⟨(.cons (.arr 8 (.int .i64)) (.last (.arr 8 (.arr 4 (.int .i64))))), s⟩] [] (outd16 k f s) := by kernel_rfl

noncomputable def Cd17 : Ctx := ⟨Go.Proofs.Tryd.prog, D, Gd16, (fun _ _ => none), fun _ => []⟩
def annd17 (_k : List Int) (_f : Int) (_s : List Int × List (List Int)) : Nat → St → Option Ann := fun _ _ => none
def outd17 (k : List Int) (f : Int) (s : List Int × List (List Int)) : COut := ⟨[], .v (.int .i64) (spkF (corrF k f s)), [], []⟩
def spd17 : Spec := fun args ins => match args, ins with
  | [⟨.arr 16 (.int .u8), k⟩, ⟨.int .i64, f⟩, ⟨(.cons (.arr 8 (.int .i64)) (.last (.arr 8 (.arr 4 (.int .i64))))), s⟩], [] => some (outd17 k f s)
  | _, _ => none
def Gd17 := addG Gd16 17 spd17
def Pd17 (k : List Int) (f : Int) (s : List Int × List (List Int)) : Prop :=
  bif decide ((2 : Int) ≤ corrF k f (Prod.fst s, Prod.snd s)) then (1 : Int) = spkF (corrF k f s) else bif decide (corrF k f (Prod.fst s, Prod.snd s) ≤ (-2 : Int)) then (-1 : Int) = spkF (corrF k f s) else (0 : Int) = spkF
  (corrF k f s)
theorem vcd17 (k : List Int) (f : Int) (s : List Int × List (List Int)) : Pd17 k f s = vcFun Cd17 (annd17 k f s) Go.Proofs.Tryd.f17 [⟨.arr 16 (.int .u8), k⟩, ⟨.int .i64, f⟩, ⟨(.cons (.arr 8 (.int .i64)) (.last (.arr 8 (.arr 4 (.int .i64))))), s⟩] [] (outd17 k f s) := by kernel_rfl

noncomputable def Cd51 : Ctx := ⟨Go.Proofs.Tryd.prog, D, Gd17, (fun _ _ => none), fun _ => []⟩
def annd51 (_z : List Int) (_x : List Int × List Int × Int × List Int × Int) : Nat → St → Option Ann := fun _ _ => none
def outd51 (z : List Int) (x : List Int × List Int × Int × List Int × Int) : COut := ⟨[smallV x.1 ∧ smallV x.2.1 ∧ smallV z], .tup [], [(0, some ⟨false, true, (.cons (.arr 4 (.int .i64)) (.cons (.arr 4 (.int .i64)) (.cons (.int .i64) (.cons (.arr 4 (.int .i64)) (.last (.int .i64)))))), [lookF x z]⟩)], []⟩
def spd51 : Spec := fun args ins => match args, ins with
  | [⟨.ref .ptr, .ptr 0 (.cons (.arr 4 (.int .i64)) (.cons (.arr 4 (.int .i64)) (.cons (.int .i64) (.cons (.arr 4 (.int .i64)) (.last (.int .i64)))))) [0]⟩, ⟨.arr 4 (.int .i64), z⟩], [⟨false, true, (.cons (.arr 4 (.int .i64)) (.cons (.arr 4 (.int .i64)) (.cons (.int .i64) (.cons (.arr 4 (.int .i64)) (.last (.int .i64)))))), [x]⟩] => some (outd51 z x)
  | _, _ => none
def Gd51 := addG Gd17 51 spd51
def Pd51 (z : List Int) (x : List Int × List Int × Int × List Int × Int) : Prop :=
  (smallV (Prod.fst x) ∧ smallV z) ∧ ∀ (b : Bool), decide ((2 : Int) ≤ dotZ z (Prod.fst (Prod.snd x)) (4 : Nat)) = b → ∀ (b_1 : Bool), (bif b then decide (farM (Prod.fst x) z (4 : Nat) ≤ Prod.fst (Prod.snd (Prod.snd x)))
  else false) = b_1 → ∀ (b_2 : Bool), decide (Prod.snd (Prod.snd (Prod.snd (Prod.snd x))) < (0 : Int)) = b_2 → ((smallV z ∧ smallV (Prod.fst (Prod.snd x))) ∧ (b = true → b = true) ∧ (b = true → b = true) ∧ (b = true → b =
  true) ∧ (b = true → b = true ∧ b = true) ∧ (b = true → b = true) ∧ (b_1 = true → b_1 = true) ∧ (b_1 = true → b_1 = true) ∧ (b_1 = true → b_1 = true) ∧ (b_1 = true → b_1 = true) ∧ ((b_1 && b_1 && !b_2) = true → (b_1 && b_1
  && !b_2) = true) ∧ ((b_1 && b_1 && !b_2) = true → (b_1 && b_1 && !b_2) = true) ∧ ((b_1 && b_1 && !b_2) = true → (b_1 && b_1 && !b_2) = true) ∧ ((b_1 && b_1 && !b_2) = true → (b_1 && b_1 && !b_2) = true ∧ (b_1 && b_1 &&
  !b_2) = true) ∧ (b_1 = true → (b_1 && b_1) = true ∧ (b_2 = false → (b_1 && b_1 && !b_2) = true)) ∧ (b_1 = true → b_1 = true)) ∧ bif bif b_1 then bif b_2 then true else decide (farM (Prod.fst x) z (4 : Nat) < Prod.snd
  (Prod.snd (Prod.snd (Prod.snd x)))) else false then Prod.fst x = Prod.fst (lookF x z) ∧ Prod.fst (Prod.snd x) = Prod.fst (Prod.snd (lookF x z)) ∧ Prod.fst (Prod.snd (Prod.snd x)) = Prod.fst (Prod.snd (Prod.snd (lookF x
  z))) ∧ z = Prod.fst (Prod.snd (Prod.snd (Prod.snd (lookF x z)))) ∧ farM (Prod.fst x) z (4 : Nat) = Prod.snd (Prod.snd (Prod.snd (Prod.snd (lookF x z)))) ∧ false = false else Prod.fst x = Prod.fst (lookF x z) ∧ Prod.fst
  (Prod.snd x) = Prod.fst (Prod.snd (lookF x z)) ∧ Prod.fst (Prod.snd (Prod.snd x)) = Prod.fst (Prod.snd (Prod.snd (lookF x z))) ∧ Prod.fst (Prod.snd (Prod.snd (Prod.snd x))) = Prod.fst (Prod.snd (Prod.snd (Prod.snd (lookF
  x z)))) ∧ Prod.snd (Prod.snd (Prod.snd (Prod.snd x))) = Prod.snd (Prod.snd (Prod.snd (Prod.snd (lookF x z)))) ∧ false = false
theorem vcd51 (z : List Int) (x : List Int × List Int × Int × List Int × Int) : Pd51 z x = vcFun Cd51 (annd51 z x) Go.Proofs.Tryd.f51 [⟨.ref .ptr, .ptr 0 (.cons (.arr 4 (.int .i64)) (.cons (.arr 4 (.int .i64)) (.cons (.int .i64) (.cons (.arr 4 (.int .i64)) (.last (.int .i64)))))) [0]⟩, ⟨.arr 4 (.int .i64), z⟩] [⟨false, true, (.cons (.arr 4 (.int .i64)) (.cons (.arr 4 (.int .i64)) (.cons (.int .i64) (.cons (.arr 4 (.int .i64)) (.last (.int .i64)))))), [x]⟩] (outd51 z x) := by kernel_rfl

end Go.SL.A

/- A frame's bit in its band: correlations. -/
namespace Go.SL.A
open Go Go.SL Go.SL.S
set_option maxRecDepth 100000

theorem hwd46 {s : List Int × List (List Int)} (hw : Go.SL.allP (List.flatMap (fun a : AV => a.t.wf a.x) [⟨(.cons (.arr 8 (.int .i64)) (.last (.arr 8 (.arr 4 (.int .i64))))), s⟩] ++ List.flatMap Blk.wf [])) : s.1.length = 8 ∧ s.2.length = 8 ∧ ∀ y ∈ s.2, y.length = 4 := by
  simp only [List.flatMap_cons, List.flatMap_nil, Ty.wf, List.append_nil, List.cons_append, List.nil_append, Go.SL.allP] at hw
  exact ⟨hw.1, hw.2.2.1, fun y hy => (hw.2.2.2 y hy).1⟩
theorem hwd16 {k : List Int} {f : Int} {s : List Int × List (List Int)} (hw : Go.SL.allP (List.flatMap (fun a : AV => a.t.wf a.x) [⟨.arr 16 (.int .u8), k⟩, ⟨.int .i64, f⟩, ⟨(.cons (.arr 8 (.int .i64)) (.last (.arr 8 (.arr 4 (.int .i64))))), s⟩] ++ List.flatMap Blk.wf [])) : s.1.length = 8 ∧ s.2.length = 8 ∧ ∀ y ∈ s.2, y.length = 4 := by
  simp only [List.flatMap_cons, List.flatMap_nil, Ty.wf, List.append_nil, List.cons_append, List.nil_append, Go.SL.allP] at hw
  exact ⟨hw.2.2.2.2.1, hw.2.2.2.2.2.2.1, fun y hy => (hw.2.2.2.2.2.2.2 y hy).1⟩

theorem all_step {α : Type} (p : α → Bool) (d : α) {l : List α} {i : Nat} (hi : i < l.length) : (l.take (i + 1)).all p = ((l.take i).all p && p (l.getD i d)) := by
  rw [take_snoc' d hi, List.all_append]; simp
theorem all_get {α : Type} {p : α → Bool} {d : α} {l : List α} {i : Nat} (hi : i < l.length) (h : l.all p = true) : p (l.getD i d) = true := List.all_eq_true.1 h _ (getD_mem hi)
theorem okN_iff {n : Int} : okN n = true ↔ -12 ≤ n ∧ n ≤ 12 := by
  unfold okN
  rw [Bool.not_eq_true', Bool.or_eq_false_iff, decide_eq_false_iff_not, decide_eq_false_iff_not]
  omega

theorem pured46 (s : List Int × List (List Int)) (hl : s.1.length = 8 ∧ s.2.length = 8 ∧ ∀ y ∈ s.2, y.length = 4) : Pd46 s := by
  obtain ⟨-, l8, l4⟩ := hl
  unfold Pd46
  simp only [eq_self, true_and, Int.toNat_natCast]
  refine ⟨0, ⟨rfl, by omega, rfl⟩, fun i hi hw => ?_⟩
  clear hw
  obtain ⟨hi, ho⟩ := hi
  by_cases h : (i : Int) < 8
  · have hi2 : i < s.2.length := by omega
    have hr := l4 _ (getD_mem (d := List.replicate 4 0) hi2)
    have hst := all_step okRow (List.replicate 4 0) hi2
    have hbad : okRow (s.2.getD i (List.replicate 4 0)) = false → heldB s.2 = false := fun hb => by
      cases hh : heldB s.2 with
      | false => rfl
      | true =>
        have := all_get (d := List.replicate 4 0) hi2 hh
        rw [hb] at this; cases this
    rw [decide_eq_true h, cond_true]
    refine ⟨⟨by omega, by omega⟩, 0, ⟨rfl, by omega, rfl⟩, fun j hj hw => ?_⟩
    clear hw
    obtain ⟨hj, hoj⟩ := hj
    by_cases h2 : (j : Int) < 4
    · have hj2 : j < (s.2.getD i (List.replicate 4 0)).length := by omega
      have hsj := all_step okN (0 : Int) hj2
      have hbj : okN ((s.2.getD i (List.replicate 4 0)).getD j 0) = false → okRow (s.2.getD i (List.replicate 4 0)) = false := fun hb => by
        cases hh : okRow (s.2.getD i (List.replicate 4 0)) with
        | false => rfl
        | true =>
          have := all_get (d := (0 : Int)) hj2 hh
          rw [hb] at this; cases this
      rw [decide_eq_true h2, cond_true]
      refine ⟨⟨by omega, by omega⟩, ?_⟩
      intro b hb
      have hok : okN ((s.2.getD i (List.replicate 4 0)).getD j 0) = !(b || decide (12 < (s.2.getD i (List.replicate 4 0)).getD j 0)) := by unfold okN; rw [hb]
      refine ⟨by cases b <;> simp, ?_⟩
      cases hc : (bif b then true else decide (12 < (s.2.getD i (List.replicate 4 0)).getD j 0)) with
      | true =>
        rw [cond_true]
        refine (hbad (hbj ?_)).symm
        rw [hok]
        cases b with
        | true => rfl
        | false => rw [cond_false] at hc; rw [hc]; rfl
      | false =>
        rw [cond_false]
        refine ⟨j + 1, step_i (by omega), ⟨by omega, ?_⟩, by omega⟩
        show ((s.2.getD i (List.replicate 4 0)).take (j + 1)).all okN = true
        have hoj : ((s.2.getD i (List.replicate 4 0)).take j).all okN = true := hoj
        rw [hsj, hoj, hok]
        cases b with
        | true => cases hc
        | false => rw [cond_false] at hc; rw [hc]; rfl
    · have : j = 4 := by omega
      subst this
      rw [decide_eq_false h2, cond_false]
      refine ⟨i + 1, step_i (by omega), ⟨by omega, ?_⟩, by omega⟩
      show (s.2.take (i + 1)).all okRow = true
      have ho : (s.2.take i).all okRow = true := ho
      have hoj : okRow ((s.2.getD i (List.replicate 4 0)).take 4) = true := hoj
      rw [List.take_of_length_le (by omega)] at hoj
      rw [hst, ho, hoj]; rfl
  · have : i = 8 := by omega
    subst this
    rw [decide_eq_false h, cond_false]
    rw [List.take_of_length_le (by omega)] at ho
    exact ho.symm

theorem prod_fit {a b : Int} (h1 : -1000 ≤ a ∧ a ≤ 1000) (h2 : -1000 ≤ b ∧ b ≤ 1000) : -1000000 ≤ a * b ∧ a * b ≤ 1000000 := by
  have e : (a * b).natAbs = a.natAbs * b.natAbs := Int.natAbs_mul a b
  have : a.natAbs * b.natAbs ≤ 1000 * 1000 := Nat.mul_le_mul (by omega) (by omega)
  omega
theorem dot_fit {y c : List Int} (hy : smallV y) (hc : smallV c) : ∀ n : Nat, n ≤ 4 → -1000000 * (n : Int) ≤ dotZ y c n ∧ dotZ y c n ≤ 1000000 * (n : Int)
  | 0, _ => by simp [dotZ]
  | n + 1, h => by
    have ih := dot_fit hy hc n (by omega)
    have h1 := hy n (by omega)
    have h2 := hc n (by omega)
    rw [dotZ]
    have h3 := prod_fit h1 h2
    omega
theorem pured49 (y c : List Int) (hp : smallV y ∧ smallV c) : Pd49 y c := by
  obtain ⟨hy, hc⟩ := hp
  unfold Pd49
  simp only [eq_self, true_and, and_true, Int.toNat_natCast]
  refine ⟨0, ⟨⟨rfl, rfl⟩, by omega⟩, fun i hi hw => ?_⟩
  clear hw
  by_cases h : (i : Int) < 4
  · have h1 := hy i (by omega)
    have h2 := hc i (by omega)
    have h3 := prod_fit h1 h2
    have hf := dot_fit hy hc i hi
    have hst : dotZ y c (i + 1) = dotZ y c i + y.getD i 0 * c.getD i 0 := rfl
    rw [decide_eq_true h, cond_true, Int.mul_comm (c.getD i 0), w64 (n := y.getD i 0 * c.getD i 0) (by omega) (by omega), w64 (by omega) (by omega)]
    exact ⟨⟨by omega, by omega⟩, ⟨⟨by omega, by omega⟩, by omega⟩, i + 1, ⟨hst.symm, step_i (by omega)⟩, by omega, by omega⟩
  · have : i = 4 := by omega
    subst this
    rw [decide_eq_false h, cond_false]

theorem ord_perm (k : List Int) (s : Int) {n : Nat} (hn : 0 < n) (m : Nat) : m ≤ n - 1 → (ordTo k s n m).Perm (iotaI n) := by
  induction m with
  | zero => intro _; exact List.Perm.refl _
  | succ m ih =>
    intro hm
    have ih := ih (by omega)
    have hl := ord_len k s n m
    have r2 := Int.emod_lt_of_pos (numK k s ((n - 1 - m : Nat) : Int)) (b := ((n - m : Nat) : Int)) (by omega)
    have r1 := Int.emod_nonneg (numK k s ((n - 1 - m : Nat) : Int)) (b := ((n - m : Nat) : Int)) (by omega)
    exact (swapL_perm (0 : Int) (l := ordTo k s n m) (i := n - 1 - m) (j := (numK k s ((n - 1 - m : Nat) : Int) % ((n - m : Nat) : Int)).toNat) (by omega) (by omega)).trans ih
theorem band_fit (k : List Int) (f : Int) : 0 ≤ bandK k f ∧ bandK k f < 8 := by
  unfold bandK
  have hp := ord_perm k (128 + f % 1016 / 8) (n := 8) (by omega) 7 (by omega)
  have hl : (ordK k (128 + f % 1016 / 8) 8).length = 8 := ordK_len _ _ _
  have hm := hp.mem_iff.1 (getD_mem (d := 0) (f := ordK k (128 + f % 1016 / 8) 8) (k := (f % 1016 % 8).toNat) (by omega))
  unfold iotaI at hm
  obtain ⟨i, hi, e⟩ := List.mem_map.1 hm
  have := List.mem_range.1 hi
  omega
theorem chipK_small (x : Int) : smallV (chipK x) := by
  intro i hi
  have h := chipK_at x hi
  rw [List.getD_eq_getElem?_getD, h, Option.getD_some]
  split <;> omega
theorem chip_small (k : List Int) (f : Int) : smallV (chipsK k f) := by
  unfold chipsK
  exact chipK_small _
theorem row_small {y : List Int} (h : okRow y = true) : ∀ i, -12 ≤ y.getD i 0 ∧ y.getD i 0 ≤ 12 := by
  intro i
  by_cases hi : i < y.length
  · exact okN_iff.1 (all_get hi h)
  · rw [List.getD_eq_getElem?_getD, List.getElem?_eq_none (by omega)]; simp
theorem held_row {Y : List (List Int)} (hl : Y.length = 8) (h : heldB Y = true) {b : Int} (hb : 0 ≤ b ∧ b < 8) : okRow (rowZ Y b) = true := all_get (by omega) h
theorem small_of {y : List Int} (h : okRow y = true) : smallV y := fun i _ => by have := row_small h i; omega
theorem pured16 (k : List Int) (f : Int) (s : List Int × List (List Int)) (hl : s.1.length = 8 ∧ s.2.length = 8 ∧ ∀ y ∈ s.2, y.length = 4) : Pd16 k f s := by
  unfold Pd16 corrF rowZ
  have hb := band_fit k f
  have hc := chip_small k f
  generalize bandK k f = b at *
  generalize chipsK k f = c at *
  cases hh : heldB s.2 with
  | false =>
    rw [Bool.not_false, cond_true, if_neg (by simp)]
  | true =>
    rw [Bool.not_true, cond_false, if_pos rfl]
    have hr := small_of (held_row hl.2.1 hh hb)
    unfold rowZ at hr
    rintro n rfl
    exact ⟨⟨⟨hb.1, by omega⟩, by omega, hr, hc⟩, rfl⟩
theorem pured17 (k : List Int) (f : Int) (s : List Int × List (List Int)) : Pd17 k f s := by
  unfold Pd17
  have e : (s.1, s.2) = s := rfl
  rw [e]
  generalize corrF k f s = c
  unfold spkF
  by_cases h : 2 ≤ c
  · rw [decide_eq_true h, cond_true, if_pos h]
  · rw [decide_eq_false h, cond_false, if_neg h]
    by_cases h2 : c ≤ -2
    · rw [decide_eq_true h2, cond_true, if_pos h2]
    · rw [decide_eq_false h2, cond_false, if_neg h2]

theorem pured51 (z : List Int) (x : List Int × List Int × Int × List Int × Int) (hp : smallV x.1 ∧ smallV x.2.1 ∧ smallV z) : Pd51 z x := by
  obtain ⟨h1, h2, h3⟩ := hp
  unfold Pd51
  refine ⟨⟨h1, h3⟩, ?_⟩
  have hB : betF x z = (decide (2 ≤ dotZ z x.2.1 4) && (decide (farM x.1 z 4 ≤ x.2.2.1) && (decide (x.2.2.2.2 < 0) || decide (farM x.1 z 4 < x.2.2.2.2)))) := rfl
  intro b hb b1 hb1 b2 hb2
  rw [hb2, hb] at hB
  refine ⟨⟨⟨h3, h2⟩, by cases b <;> cases b1 <;> cases b2 <;> simp⟩, ?_⟩
  have hc : (bif b1 then (bif b2 then true else decide (farM x.1 z 4 < x.2.2.2.2)) else false) = betF x z := by
    rw [hB, ← hb1]
    cases b <;> cases decide (farM x.1 z 4 ≤ x.2.2.1) <;> cases b2 <;> rfl
  rw [hc]
  unfold lookF
  cases betF x z with
  | true => rw [cond_true, if_pos rfl]; exact ⟨rfl, rfl, rfl, rfl, rfl, rfl⟩
  | false => rw [cond_false, if_neg (by simp)]; exact ⟨rfl, rfl, rfl, rfl, rfl, rfl⟩
end Go.SL.A

/- Functions do what they are held to do. -/
namespace Go.SL.A
open Go Go.SL Go.SL.S
theorem sndd46 : Sound Go.Proofs.Tryd.prog Gd46 := sndd30.add ⟨_, Go.Proofs.Tryd.func46, by kernel_rfl, by kernel_rfl⟩ (by
  intro args ins out h hp
  unfold spd46 at h
  split at h
  · rename_i s
    cases h
    exact vcFun_ok (C := Cd46) good sndd30 Meth.none mix Go.Proofs.Tryd.func46 (annd46 s) (fun hw => by rw [← vcd46 s]; exact pured46 s (hwd46 hw))
  · cases h)

theorem sndd49 : Sound Go.Proofs.Tryd.prog Gd49 := sndd46.add ⟨_, Go.Proofs.Tryd.func49, by kernel_rfl, by kernel_rfl⟩ (by
  intro args ins out h hp
  unfold spd49 at h
  split at h
  · rename_i y c
    cases h
    exact vcFun_ok (C := Cd49) good sndd46 Meth.none mix Go.Proofs.Tryd.func49 (annd49 y c) (fun hw => by rw [← vcd49 y c]; exact pured49 y c hp)
  · cases h)

theorem sndd16 : Sound Go.Proofs.Tryd.prog Gd16 := sndd49.add ⟨_, Go.Proofs.Tryd.func16, by kernel_rfl, by kernel_rfl⟩ (by
  intro args ins out h hp
  unfold spd16 at h
  split at h
  · rename_i k f s
    cases h
    exact vcFun_ok (C := Cd16) good sndd49 Meth.none mix Go.Proofs.Tryd.func16 (annd16 k f s) (fun hw => by rw [← vcd16 k f s]; exact pured16 k f s (hwd16 hw))
  · cases h)

theorem sndd17 : Sound Go.Proofs.Tryd.prog Gd17 := sndd16.add ⟨_, Go.Proofs.Tryd.func17, by kernel_rfl, by kernel_rfl⟩ (by
  intro args ins out h hp
  unfold spd17 at h
  split at h
  · rename_i k f s
    cases h
    exact vcFun_ok (C := Cd17) good sndd16 Meth.none mix Go.Proofs.Tryd.func17 (annd17 k f s) (fun hw => by rw [← vcd17 k f s]; exact pured17 k f s)
  · cases h)

theorem sndd51 : Sound Go.Proofs.Tryd.prog Gd51 := sndd17.add ⟨_, Go.Proofs.Tryd.func51, by kernel_rfl, by kernel_rfl⟩ (by
  intro args ins out h hp
  unfold spd51 at h
  split at h
  · rename_i z x
    cases h
    exact vcFun_ok (C := Cd51) good sndd17 Meth.none mix Go.Proofs.Tryd.func51 (annd51 z x) (fun hw => by rw [← vcd51 z x]; exact pured51 z x hp)
  · cases h)

end Go.SL.A
