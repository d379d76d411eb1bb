/- A frame's bit in its band: the functions of the package mark and the document's. -/
import Derived.Test.YthhfccnhkadkcaaDoorMask
import Derived.Test.YthhfccnhkadkcaaDoorPvqV

/- A call that is never made: what it would be held to do, under a condition that never holds. -/
namespace Go.SL.A
open Go Go.SL Go.SL.S
set_option maxRecDepth 100000
def spc84 : Spec := fun args ins => match args, ins with
  | [⟨.int .i64, _⟩, ⟨.int .i64, _⟩, ⟨.ref .ptr, .ptr 0 (.arr 4 (.int .i64)) [0]⟩, ⟨.ref .ptr, .ptr 1 (.ref .func) [0]⟩, ⟨.ref .ptr, .ptr 2 (.ref .func) [0]⟩], [⟨false, true, .arr 4 (.int .i64), [y]⟩, ⟨false, true, .ref .func, [.func (.func 51) [.ptr 3 (.cons (.arr 4 (.int .i64)) (.cons (.arr 4 (.int .i64)) (.cons (.int .i64) (.cons (.arr 4 (.int .i64)) (.last (.int .i64)))))) [0]] []]⟩, ⟨false, true, .ref .func, [.func (.func 84) [] [.ptr 0 (.arr 4 (.int .i64)) [0], .ptr 1 (.ref .func) [0], .ptr 2 (.ref .func) [0]]]⟩, ⟨false, true, (.cons (.arr 4 (.int .i64)) (.cons (.arr 4 (.int .i64)) (.cons (.int .i64) (.cons (.arr 4 (.int .i64)) (.last (.int .i64)))))), [x]⟩] => some ⟨[False], .tup [], [(0, some ⟨false, true, .arr 4 (.int .i64), [y]⟩), (3, some ⟨false, true, (.cons (.arr 4 (.int .i64)) (.cons (.arr 4 (.int .i64)) (.cons (.int .i64) (.cons (.arr 4 (.int .i64)) (.last (.int .i64)))))), [x]⟩)], []⟩
  | _, _ => none
def Gc84 := addG Gd51 84 spc84
theorem sndc84 : Sound Go.Proofs.Tryd.prog Gc84 := sndd51.add ⟨_, Go.Proofs.Tryd.func84, by kernel_rfl, by kernel_rfl⟩ (by
  intro args ins out h hp
  unfold spc84 at h
  split at h
  · cases h
    exact False.elim hp
  · cases h)
end Go.SL.A

/- Functions and what they are held to do: bound to their code. -/
namespace Go.SL.A
open Go Go.SL Go.SL.S
set_option maxRecDepth 100000
noncomputable def Cd84 : Ctx := ⟨Go.Proofs.Tryd.prog, D, Gc84, (fun _ _ => none), fun _ => []⟩
def annd84 (i a : Int) (y : List Int) (x : List Int × List Int × Int × List Int × Int) : Nat → St → Option Ann := fun _ _ => some ⟨Nat, [0, 1, 2, 3, 4, 26], [1, 2], fun j => [(27, .v (.int .i64) (j : Int))], fun j => [(0, some ⟨false, true, .arr 4 (.int .i64), [(goF (eachF 0 (i + 1)) i a (y, x) j).1]⟩), (3, some ⟨false, true, (.cons (.arr 4 (.int .i64)) (.cons (.arr 4 (.int .i64)) (.cons (.int .i64) (.cons (.arr 4 (.int .i64)) (.last (.int .i64)))))), [(goF (eachF 0 (i + 1)) i a (y, x) j).2]⟩)], fun j => j ≤ (a + 1).toNat, fun j => (a + 1).toNat - j⟩
def outd84 (i a : Int) (y : List Int) (x : List Int × List Int × Int × List Int × Int) : COut := ⟨[i = 3 - (0 : Int), (0 ≤ a ∧ a ≤ 12) ∧ y.length = 4 ∧ smallV y ∧ smallV x.1 ∧ smallV x.2.1], .tup [], [(0, some ⟨false, true, .arr 4 (.int .i64), [(eachF 0 i a (y, x)).1]⟩), (3, some ⟨false, true, (.cons (.arr 4 (.int .i64)) (.cons (.arr 4 (.int .i64)) (.cons (.int .i64) (.cons (.arr 4 (.int .i64)) (.last (.int .i64)))))), [(eachF 0 i a (y, x)).2]⟩)], []⟩
def spd84 : Spec := fun args ins => match args, ins with
  | [⟨.int .i64, i⟩, ⟨.int .i64, a⟩, ⟨.ref .ptr, .ptr 0 (.arr 4 (.int .i64)) [0]⟩, ⟨.ref .ptr, .ptr 1 (.ref .func) [0]⟩, ⟨.ref .ptr, .ptr 2 (.ref .func) [0]⟩], [⟨false, true, .arr 4 (.int .i64), [y]⟩, ⟨false, true, .ref .func, [.func (.func 51) [.ptr 3 (.cons (.arr 4 (.int .i64)) (.cons (.arr 4 (.int .i64)) (.cons (.int .i64) (.cons (.arr 4 (.int .i64)) (.last (.int .i64)))))) [0]] []]⟩, ⟨false, true, .ref .func, [.func (.func 84) [] [.ptr 0 (.arr 4 (.int .i64)) [0], .ptr 1 (.ref .func) [0], .ptr 2 (.ref .func) [0]]]⟩, ⟨false, true, (.cons (.arr 4 (.int .i64)) (.cons (.arr 4 (.int .i64)) (.cons (.int .i64) (.cons (.arr 4 (.int .i64)) (.last (.int .i64)))))), [x]⟩] => some (outd84 i a y x)
  | _, _ => none
def Gd84 := addG Gc84 84 spd84
def Pd84 (i a : Int) (y : List Int) (x : List Int × List Int × Int × List Int × Int) : Prop :=
  bif decide (i = (3 : Int)) then (((0 : Int) ≤ i ∧ i < (↑(4 : Nat) : Int)) ∧ Int.toNat i < (4 : Nat)) ∧ (smallV (Prod.fst x) ∧ smallV (Prod.fst (Prod.snd x)) ∧ smallV (List.set y (Int.toNat i) a)) ∧ bif decide ((0 : Int) <
  a) then (((0 : Int) ≤ i ∧ i < (↑(4 : Nat) : Int)) ∧ Int.toNat i < (4 : Nat)) ∧ (smallV (Prod.fst (lookF x (List.set y (Int.toNat i) a))) ∧ smallV (Prod.fst (Prod.snd (lookF x (List.set y (Int.toNat i) a)))) ∧ smallV
  (List.set (List.set y (Int.toNat i) a) (Int.toNat i) (IntKind.wrap IntKind.i64 ((0 : Int) - a)))) ∧ List.set (List.set y (Int.toNat i) a) (Int.toNat i) (IntKind.wrap IntKind.i64 ((0 : Int) - a)) = Prod.fst (eachF (0 :
  Nat) i a (y, x)) ∧ false = false ∧ (0 : Nat) = (0 : Nat) ∧ false = false ∧ (0 : Nat) = (0 : Nat) ∧ (0 : Nat) = (0 : Nat) ∧ (0 : Nat) = (0 : Nat) ∧ false = false ∧ Prod.fst (lookF (lookF x (List.set y (Int.toNat i) a))
  (List.set (List.set y (Int.toNat i) a) (Int.toNat i) (IntKind.wrap IntKind.i64 ((0 : Int) - a)))) = Prod.fst (Prod.snd (eachF (0 : Nat) i a (y, x))) ∧ Prod.fst (Prod.snd (lookF (lookF x (List.set y (Int.toNat i) a))
  (List.set (List.set y (Int.toNat i) a) (Int.toNat i) (IntKind.wrap IntKind.i64 ((0 : Int) - a))))) = Prod.fst (Prod.snd (Prod.snd (eachF (0 : Nat) i a (y, x)))) ∧ Prod.fst (Prod.snd (Prod.snd (lookF (lookF x (List.set y
  (Int.toNat i) a)) (List.set (List.set y (Int.toNat i) a) (Int.toNat i) (IntKind.wrap IntKind.i64 ((0 : Int) - a)))))) = Prod.fst (Prod.snd (Prod.snd (Prod.snd (eachF (0 : Nat) i a (y, x))))) ∧ Prod.fst (Prod.snd (Prod.snd
  (Prod.snd (lookF (lookF x (List.set y (Int.toNat i) a)) (List.set (List.set y (Int.toNat i) a) (Int.toNat i) (IntKind.wrap IntKind.i64 ((0 : Int) - a))))))) = Prod.fst (Prod.snd (Prod.snd (Prod.snd (Prod.snd (eachF (0 :
  Nat) i a (y, x)))))) ∧ Prod.snd (Prod.snd (Prod.snd (Prod.snd (lookF (lookF x (List.set y (Int.toNat i) a)) (List.set (List.set y (Int.toNat i) a) (Int.toNat i) (IntKind.wrap IntKind.i64 ((0 : Int) - a))))))) = Prod.snd
  (Prod.snd (Prod.snd (Prod.snd (Prod.snd (eachF (0 : Nat) i a (y, x)))))) ∧ false = false else List.set y (Int.toNat i) a = Prod.fst (eachF (0 : Nat) i a (y, x)) ∧ false = false ∧ (0 : Nat) = (0 : Nat) ∧ false = false ∧ (0
  : Nat) = (0 : Nat) ∧ (0 : Nat) = (0 : Nat) ∧ (0 : Nat) = (0 : Nat) ∧ false = false ∧ Prod.fst (lookF x (List.set y (Int.toNat i) a)) = Prod.fst (Prod.snd (eachF (0 : Nat) i a (y, x))) ∧ Prod.fst (Prod.snd (lookF x
  (List.set y (Int.toNat i) a))) = Prod.fst (Prod.snd (Prod.snd (eachF (0 : Nat) i a (y, x)))) ∧ Prod.fst (Prod.snd (Prod.snd (lookF x (List.set y (Int.toNat i) a)))) = Prod.fst (Prod.snd (Prod.snd (Prod.snd (eachF (0 :
  Nat) i a (y, x))))) ∧ Prod.fst (Prod.snd (Prod.snd (Prod.snd (lookF x (List.set y (Int.toNat i) a))))) = Prod.fst (Prod.snd (Prod.snd (Prod.snd (Prod.snd (eachF (0 : Nat) i a (y, x)))))) ∧ Prod.snd (Prod.snd (Prod.snd
  (Prod.snd (lookF x (List.set y (Int.toNat i) a))))) = Prod.snd (Prod.snd (Prod.snd (Prod.snd (Prod.snd (eachF (0 : Nat) i a (y, x)))))) ∧ false = false else ∃ (x_1 : Nat), ((i = i ∧ a = a ∧ (0 : Nat) = (0 : Nat) ∧ (0 :
  Nat) = (0 : Nat) ∧ (0 : Nat) = (0 : Nat) ∧ IntKind.wrap IntKind.i64 (a + (1 : Int)) = IntKind.wrap IntKind.i64 (a + (1 : Int)) ∧ (0 : Int) = (↑x_1 : Int) ∧ y = Prod.fst (goF (eachF (0 : Nat) (i + (1 : Int))) i a (y, x)
  x_1) ∧ false = false ∧ (0 : Nat) = (0 : Nat) ∧ false = false ∧ (0 : Nat) = (0 : Nat) ∧ (0 : Nat) = (0 : Nat) ∧ (0 : Nat) = (0 : Nat) ∧ false = false ∧ Prod.fst x = Prod.fst (Prod.snd (goF (eachF (0 : Nat) (i + (1 : Int)))
  i a (y, x) x_1)) ∧ Prod.fst (Prod.snd x) = Prod.fst (Prod.snd (Prod.snd (goF (eachF (0 : Nat) (i + (1 : Int))) i a (y, x) x_1))) ∧ Prod.fst (Prod.snd (Prod.snd x)) = Prod.fst (Prod.snd (Prod.snd (Prod.snd (goF (eachF (0 :
  Nat) (i + (1 : Int))) i a (y, x) x_1)))) ∧ Prod.fst (Prod.snd (Prod.snd (Prod.snd x))) = Prod.fst (Prod.snd (Prod.snd (Prod.snd (Prod.snd (goF (eachF (0 : Nat) (i + (1 : Int))) i a (y, x) x_1))))) ∧ Prod.snd (Prod.snd
  (Prod.snd (Prod.snd x))) = Prod.snd (Prod.snd (Prod.snd (Prod.snd (Prod.snd (goF (eachF (0 : Nat) (i + (1 : Int))) i a (y, x) x_1))))) ∧ false = false) ∧ x_1 ≤ Int.toNat (a + (1 : Int))) ∧ ∀ (x_2 : Nat), x_2 ≤ Int.toNat
  (a + (1 : Int)) → (IntKind.min IntKind.i64 ≤ (↑x_2 : Int) ∧ (↑x_2 : Int) ≤ IntKind.max IntKind.i64 ∧ (∀ (y_1 : List Int), List.Mem y_1 [Prod.fst (goF (eachF (0 : Nat) (i + (1 : Int))) i a (y, x) x_2)] → List.length y_1 =
  (4 : Nat) ∧ ∀ (y : Int), List.Mem y y_1 → IntKind.min IntKind.i64 ≤ y ∧ y ≤ IntKind.max IntKind.i64) ∧ ∀ (y_1 : List Int × List Int × Int × List Int × Int), List.Mem y_1 [Prod.snd (goF (eachF (0 : Nat) (i + (1 : Int))) i
  a (y, x) x_2)] → List.length (Prod.fst y_1) = (4 : Nat) ∧ (∀ (y : Int), List.Mem y (Prod.fst y_1) → IntKind.min IntKind.i64 ≤ y ∧ y ≤ IntKind.max IntKind.i64) ∧ List.length (Prod.fst (Prod.snd y_1)) = (4 : Nat) ∧ (∀ (y :
  Int), List.Mem y (Prod.fst (Prod.snd y_1)) → IntKind.min IntKind.i64 ≤ y ∧ y ≤ IntKind.max IntKind.i64) ∧ IntKind.min IntKind.i64 ≤ Prod.fst (Prod.snd (Prod.snd y_1)) ∧ Prod.fst (Prod.snd (Prod.snd y_1)) ≤ IntKind.max
  IntKind.i64 ∧ List.length (Prod.fst (Prod.snd (Prod.snd (Prod.snd y_1)))) = (4 : Nat) ∧ (∀ (y : Int), List.Mem y (Prod.fst (Prod.snd (Prod.snd (Prod.snd y_1)))) → IntKind.min IntKind.i64 ≤ y ∧ y ≤ IntKind.max IntKind.i64)
  ∧ IntKind.min IntKind.i64 ≤ Prod.snd (Prod.snd (Prod.snd (Prod.snd y_1))) ∧ Prod.snd (Prod.snd (Prod.snd (Prod.snd y_1))) ≤ IntKind.max IntKind.i64) → bif decide ((↑x_2 : Int) < IntKind.wrap IntKind.i64 (a + (1 : Int)))
  then (((0 : Int) ≤ i ∧ i < (↑(4 : Nat) : Int)) ∧ Int.toNat i < (4 : Nat)) ∧ False ∧ bif decide ((0 : Int) < (↑x_2 : Int)) then (((0 : Int) ≤ i ∧ i < (↑(4 : Nat) : Int)) ∧ Int.toNat i < (4 : Nat)) ∧ False ∧ ∃ (y_1 : Nat),
  (i = i ∧ a = a ∧ (0 : Nat) = (0 : Nat) ∧ (0 : Nat) = (0 : Nat) ∧ (0 : Nat) = (0 : Nat) ∧ IntKind.wrap IntKind.i64 (a + (1 : Int)) = IntKind.wrap IntKind.i64 (a + (1 : Int)) ∧ IntKind.wrap IntKind.i64 ((↑x_2 : Int) + (1 :
  Int)) = (↑y_1 : Int) ∧ List.set (List.set (Prod.fst (goF (eachF (0 : Nat) (i + (1 : Int))) i a (y, x) x_2)) (Int.toNat i) (↑x_2 : Int)) (Int.toNat i) (IntKind.wrap IntKind.i64 ((0 : Int) - (↑x_2 : Int))) = Prod.fst (goF
  (eachF (0 : Nat) (i + (1 : Int))) i a (y, x) y_1) ∧ false = false ∧ (0 : Nat) = (0 : Nat) ∧ false = false ∧ (0 : Nat) = (0 : Nat) ∧ (0 : Nat) = (0 : Nat) ∧ (0 : Nat) = (0 : Nat) ∧ false = false ∧ Prod.fst (Prod.snd (goF
  (eachF (0 : Nat) (i + (1 : Int))) i a (y, x) x_2)) = Prod.fst (Prod.snd (goF (eachF (0 : Nat) (i + (1 : Int))) i a (y, x) y_1)) ∧ Prod.fst (Prod.snd (Prod.snd (goF (eachF (0 : Nat) (i + (1 : Int))) i a (y, x) x_2))) =
  Prod.fst (Prod.snd (Prod.snd (goF (eachF (0 : Nat) (i + (1 : Int))) i a (y, x) y_1))) ∧ Prod.fst (Prod.snd (Prod.snd (Prod.snd (goF (eachF (0 : Nat) (i + (1 : Int))) i a (y, x) x_2)))) = Prod.fst (Prod.snd (Prod.snd
  (Prod.snd (goF (eachF (0 : Nat) (i + (1 : Int))) i a (y, x) y_1)))) ∧ Prod.fst (Prod.snd (Prod.snd (Prod.snd (Prod.snd (goF (eachF (0 : Nat) (i + (1 : Int))) i a (y, x) x_2))))) = Prod.fst (Prod.snd (Prod.snd (Prod.snd
  (Prod.snd (goF (eachF (0 : Nat) (i + (1 : Int))) i a (y, x) y_1))))) ∧ Prod.snd (Prod.snd (Prod.snd (Prod.snd (Prod.snd (goF (eachF (0 : Nat) (i + (1 : Int))) i a (y, x) x_2))))) = Prod.snd (Prod.snd (Prod.snd (Prod.snd
  (Prod.snd (goF (eachF (0 : Nat) (i + (1 : Int))) i a (y, x) y_1))))) ∧ false = false) ∧ y_1 ≤ Int.toNat (a + (1 : Int)) ∧ Int.toNat (a + (1 : Int)) - y_1 < Int.toNat (a + (1 : Int)) - x_2 else ∃ (y_1 : Nat), (i = i ∧ a =
  a ∧ (0 : Nat) = (0 : Nat) ∧ (0 : Nat) = (0 : Nat) ∧ (0 : Nat) = (0 : Nat) ∧ IntKind.wrap IntKind.i64 (a + (1 : Int)) = IntKind.wrap IntKind.i64 (a + (1 : Int)) ∧ IntKind.wrap IntKind.i64 ((↑x_2 : Int) + (1 : Int)) = (↑y_1
  : Int) ∧ List.set (Prod.fst (goF (eachF (0 : Nat) (i + (1 : Int))) i a (y, x) x_2)) (Int.toNat i) (↑x_2 : Int) = Prod.fst (goF (eachF (0 : Nat) (i + (1 : Int))) i a (y, x) y_1) ∧ false = false ∧ (0 : Nat) = (0 : Nat) ∧
  false = false ∧ (0 : Nat) = (0 : Nat) ∧ (0 : Nat) = (0 : Nat) ∧ (0 : Nat) = (0 : Nat) ∧ false = false ∧ Prod.fst (Prod.snd (goF (eachF (0 : Nat) (i + (1 : Int))) i a (y, x) x_2)) = Prod.fst (Prod.snd (goF (eachF (0 : Nat)
  (i + (1 : Int))) i a (y, x) y_1)) ∧ Prod.fst (Prod.snd (Prod.snd (goF (eachF (0 : Nat) (i + (1 : Int))) i a (y, x) x_2))) = Prod.fst (Prod.snd (Prod.snd (goF (eachF (0 : Nat) (i + (1 : Int))) i a (y, x) y_1))) ∧ Prod.fst
  (Prod.snd (Prod.snd (Prod.snd (goF (eachF (0 : Nat) (i + (1 : Int))) i a (y, x) x_2)))) = Prod.fst (Prod.snd (Prod.snd (Prod.snd (goF (eachF (0 : Nat) (i + (1 : Int))) i a (y, x) y_1)))) ∧ Prod.fst (Prod.snd (Prod.snd
  (Prod.snd (Prod.snd (goF (eachF (0 : Nat) (i + (1 : Int))) i a (y, x) x_2))))) = Prod.fst (Prod.snd (Prod.snd (Prod.snd (Prod.snd (goF (eachF (0 : Nat) (i + (1 : Int))) i a (y, x) y_1))))) ∧ Prod.snd (Prod.snd (Prod.snd
  (Prod.snd (Prod.snd (goF (eachF (0 : Nat) (i + (1 : Int))) i a (y, x) x_2))))) = Prod.snd (Prod.snd (Prod.snd (Prod.snd (Prod.snd (goF (eachF (0 : Nat) (i + (1 : Int))) i a (y, x) y_1))))) ∧ false = false) ∧ y_1 ≤
  Int.toNat (a + (1 : Int)) ∧ Int.toNat (a + (1 : Int)) - y_1 < Int.toNat (a + (1 : Int)) - x_2 else Prod.fst (goF (eachF (0 : Nat) (i + (1 : Int))) i a (y, x) x_2) = Prod.fst (eachF (0 : Nat) i a (y, x)) ∧ false = false ∧
  (0 : Nat) = (0 : Nat) ∧ false = false ∧ (0 : Nat) = (0 : Nat) ∧ (0 : Nat) = (0 : Nat) ∧ (0 : Nat) = (0 : Nat) ∧ false = false ∧ Prod.fst (Prod.snd (goF (eachF (0 : Nat) (i + (1 : Int))) i a (y, x) x_2)) = Prod.fst
  (Prod.snd (eachF (0 : Nat) i a (y, x))) ∧ Prod.fst (Prod.snd (Prod.snd (goF (eachF (0 : Nat) (i + (1 : Int))) i a (y, x) x_2))) = Prod.fst (Prod.snd (Prod.snd (eachF (0 : Nat) i a (y, x)))) ∧ Prod.fst (Prod.snd (Prod.snd
  (Prod.snd (goF (eachF (0 : Nat) (i + (1 : Int))) i a (y, x) x_2)))) = Prod.fst (Prod.snd (Prod.snd (Prod.snd (eachF (0 : Nat) i a (y, x))))) ∧ Prod.fst (Prod.snd (Prod.snd (Prod.snd (Prod.snd (goF (eachF (0 : Nat) (i + (1
  : Int))) i a (y, x) x_2))))) = Prod.fst (Prod.snd (Prod.snd (Prod.snd (Prod.snd (eachF (0 : Nat) i a (y, x)))))) ∧ Prod.snd (Prod.snd (Prod.snd (Prod.snd (Prod.snd (goF (eachF (0 : Nat) (i + (1 : Int))) i a (y, x)
  x_2))))) = Prod.snd (Prod.snd (Prod.snd (Prod.snd (Prod.snd (eachF (0 : Nat) i a (y, x)))))) ∧ false = false
theorem vcd84 (i a : Int) (y : List Int) (x : List Int × List Int × Int × List Int × Int) : Pd84 i a y x = vcFun Cd84 (annd84 i a y x) Go.Proofs.Tryd.f84 [⟨.int .i64, i⟩, ⟨.int .i64, a⟩, ⟨.ref .ptr, .ptr 0 (.arr 4 (.int .i64)) [0]⟩, ⟨.ref .ptr, .ptr 1 (.ref .func) [0]⟩, ⟨.ref .ptr, .ptr 2 (.ref .func) [0]⟩] [⟨false, true, .arr 4 (.int .i64), [y]⟩, ⟨false, true, .ref .func, [.func (.func 51) [.ptr 3 (.cons (.arr 4 (.int .i64)) (.cons (.arr 4 (.int .i64)) (.cons (.int .i64) (.cons (.arr 4 (.int .i64)) (.last (.int .i64)))))) [0]] []]⟩, ⟨false, true, .ref .func, [.func (.func 84) [] [.ptr 0 (.arr 4 (.int .i64)) [0], .ptr 1 (.ref .func) [0], .ptr 2 (.ref .func) [0]]]⟩, ⟨false, true, (.cons (.arr 4 (.int .i64)) (.cons (.arr 4 (.int .i64)) (.cons (.int .i64) (.cons (.arr 4 (.int .i64)) (.last (.int .i64)))))), [x]⟩] (outd84 i a y x) := by kernel_rfl

noncomputable def Ce84 : Ctx := ⟨Go.Proofs.Tryd.prog, D, Gd84, (fun _ _ => none), fun _ => []⟩
def anne84 (i a : Int) (y : List Int) (x : List Int × List Int × Int × List Int × Int) : Nat → St → Option Ann := fun _ _ => some ⟨Nat, [0, 1, 2, 3, 4, 26], [1, 2], fun j => [(27, .v (.int .i64) (j : Int))], fun j => [(0, some ⟨false, true, .arr 4 (.int .i64), [(goF (eachF 0 (i + 1)) i a (y, x) j).1]⟩), (3, some ⟨false, true, (.cons (.arr 4 (.int .i64)) (.cons (.arr 4 (.int .i64)) (.cons (.int .i64) (.cons (.arr 4 (.int .i64)) (.last (.int .i64)))))), [(goF (eachF 0 (i + 1)) i a (y, x) j).2]⟩)], fun j => j ≤ (a + 1).toNat, fun j => (a + 1).toNat - j⟩
def oute84 (i a : Int) (y : List Int) (x : List Int × List Int × Int × List Int × Int) : COut := ⟨[i = 3 - (1 : Int), (0 ≤ a ∧ a ≤ 12) ∧ y.length = 4 ∧ smallV y ∧ smallV x.1 ∧ smallV x.2.1], .tup [], [(0, some ⟨false, true, .arr 4 (.int .i64), [(eachF 1 i a (y, x)).1]⟩), (3, some ⟨false, true, (.cons (.arr 4 (.int .i64)) (.cons (.arr 4 (.int .i64)) (.cons (.int .i64) (.cons (.arr 4 (.int .i64)) (.last (.int .i64)))))), [(eachF 1 i a (y, x)).2]⟩)], []⟩
def spe84 : Spec := fun args ins => match args, ins with
  | [⟨.int .i64, i⟩, ⟨.int .i64, a⟩, ⟨.ref .ptr, .ptr 0 (.arr 4 (.int .i64)) [0]⟩, ⟨.ref .ptr, .ptr 1 (.ref .func) [0]⟩, ⟨.ref .ptr, .ptr 2 (.ref .func) [0]⟩], [⟨false, true, .arr 4 (.int .i64), [y]⟩, ⟨false, true, .ref .func, [.func (.func 51) [.ptr 3 (.cons (.arr 4 (.int .i64)) (.cons (.arr 4 (.int .i64)) (.cons (.int .i64) (.cons (.arr 4 (.int .i64)) (.last (.int .i64)))))) [0]] []]⟩, ⟨false, true, .ref .func, [.func (.func 84) [] [.ptr 0 (.arr 4 (.int .i64)) [0], .ptr 1 (.ref .func) [0], .ptr 2 (.ref .func) [0]]]⟩, ⟨false, true, (.cons (.arr 4 (.int .i64)) (.cons (.arr 4 (.int .i64)) (.cons (.int .i64) (.cons (.arr 4 (.int .i64)) (.last (.int .i64)))))), [x]⟩] => some (oute84 i a y x)
  | _, _ => none
def Ge84 := addG Gd84 84 spe84
def Pe84 (i a : Int) (y : List Int) (x : List Int × List Int × Int × List Int × Int) : Prop :=
  bif decide (i = (3 : Int)) then (((0 : Int) ≤ i ∧ i < (↑(4 : Nat) : Int)) ∧ Int.toNat i < (4 : Nat)) ∧ (smallV (Prod.fst x) ∧ smallV (Prod.fst (Prod.snd x)) ∧ smallV (List.set y (Int.toNat i) a)) ∧ bif decide ((0 : Int) <
  a) then (((0 : Int) ≤ i ∧ i < (↑(4 : Nat) : Int)) ∧ Int.toNat i < (4 : Nat)) ∧ (smallV (Prod.fst (lookF x (List.set y (Int.toNat i) a))) ∧ smallV (Prod.fst (Prod.snd (lookF x (List.set y (Int.toNat i) a)))) ∧ smallV
  (List.set (List.set y (Int.toNat i) a) (Int.toNat i) (IntKind.wrap IntKind.i64 ((0 : Int) - a)))) ∧ List.set (List.set y (Int.toNat i) a) (Int.toNat i) (IntKind.wrap IntKind.i64 ((0 : Int) - a)) = Prod.fst (eachF (1 :
  Nat) i a (y, x)) ∧ false = false ∧ (0 : Nat) = (0 : Nat) ∧ false = false ∧ (0 : Nat) = (0 : Nat) ∧ (0 : Nat) = (0 : Nat) ∧ (0 : Nat) = (0 : Nat) ∧ false = false ∧ Prod.fst (lookF (lookF x (List.set y (Int.toNat i) a))
  (List.set (List.set y (Int.toNat i) a) (Int.toNat i) (IntKind.wrap IntKind.i64 ((0 : Int) - a)))) = Prod.fst (Prod.snd (eachF (1 : Nat) i a (y, x))) ∧ Prod.fst (Prod.snd (lookF (lookF x (List.set y (Int.toNat i) a))
  (List.set (List.set y (Int.toNat i) a) (Int.toNat i) (IntKind.wrap IntKind.i64 ((0 : Int) - a))))) = Prod.fst (Prod.snd (Prod.snd (eachF (1 : Nat) i a (y, x)))) ∧ Prod.fst (Prod.snd (Prod.snd (lookF (lookF x (List.set y
  (Int.toNat i) a)) (List.set (List.set y (Int.toNat i) a) (Int.toNat i) (IntKind.wrap IntKind.i64 ((0 : Int) - a)))))) = Prod.fst (Prod.snd (Prod.snd (Prod.snd (eachF (1 : Nat) i a (y, x))))) ∧ Prod.fst (Prod.snd (Prod.snd
  (Prod.snd (lookF (lookF x (List.set y (Int.toNat i) a)) (List.set (List.set y (Int.toNat i) a) (Int.toNat i) (IntKind.wrap IntKind.i64 ((0 : Int) - a))))))) = Prod.fst (Prod.snd (Prod.snd (Prod.snd (Prod.snd (eachF (1 :
  Nat) i a (y, x)))))) ∧ Prod.snd (Prod.snd (Prod.snd (Prod.snd (lookF (lookF x (List.set y (Int.toNat i) a)) (List.set (List.set y (Int.toNat i) a) (Int.toNat i) (IntKind.wrap IntKind.i64 ((0 : Int) - a))))))) = Prod.snd
  (Prod.snd (Prod.snd (Prod.snd (Prod.snd (eachF (1 : Nat) i a (y, x)))))) ∧ false = false else List.set y (Int.toNat i) a = Prod.fst (eachF (1 : Nat) i a (y, x)) ∧ false = false ∧ (0 : Nat) = (0 : Nat) ∧ false = false ∧ (0
  : Nat) = (0 : Nat) ∧ (0 : Nat) = (0 : Nat) ∧ (0 : Nat) = (0 : Nat) ∧ false = false ∧ Prod.fst (lookF x (List.set y (Int.toNat i) a)) = Prod.fst (Prod.snd (eachF (1 : Nat) i a (y, x))) ∧ Prod.fst (Prod.snd (lookF x
  (List.set y (Int.toNat i) a))) = Prod.fst (Prod.snd (Prod.snd (eachF (1 : Nat) i a (y, x)))) ∧ Prod.fst (Prod.snd (Prod.snd (lookF x (List.set y (Int.toNat i) a)))) = Prod.fst (Prod.snd (Prod.snd (Prod.snd (eachF (1 :
  Nat) i a (y, x))))) ∧ Prod.fst (Prod.snd (Prod.snd (Prod.snd (lookF x (List.set y (Int.toNat i) a))))) = Prod.fst (Prod.snd (Prod.snd (Prod.snd (Prod.snd (eachF (1 : Nat) i a (y, x)))))) ∧ Prod.snd (Prod.snd (Prod.snd
  (Prod.snd (lookF x (List.set y (Int.toNat i) a))))) = Prod.snd (Prod.snd (Prod.snd (Prod.snd (Prod.snd (eachF (1 : Nat) i a (y, x)))))) ∧ false = false else ∃ (x_1 : Nat), ((i = i ∧ a = a ∧ (0 : Nat) = (0 : Nat) ∧ (0 :
  Nat) = (0 : Nat) ∧ (0 : Nat) = (0 : Nat) ∧ IntKind.wrap IntKind.i64 (a + (1 : Int)) = IntKind.wrap IntKind.i64 (a + (1 : Int)) ∧ (0 : Int) = (↑x_1 : Int) ∧ y = Prod.fst (goF (eachF (0 : Nat) (i + (1 : Int))) i a (y, x)
  x_1) ∧ false = false ∧ (0 : Nat) = (0 : Nat) ∧ false = false ∧ (0 : Nat) = (0 : Nat) ∧ (0 : Nat) = (0 : Nat) ∧ (0 : Nat) = (0 : Nat) ∧ false = false ∧ Prod.fst x = Prod.fst (Prod.snd (goF (eachF (0 : Nat) (i + (1 : Int)))
  i a (y, x) x_1)) ∧ Prod.fst (Prod.snd x) = Prod.fst (Prod.snd (Prod.snd (goF (eachF (0 : Nat) (i + (1 : Int))) i a (y, x) x_1))) ∧ Prod.fst (Prod.snd (Prod.snd x)) = Prod.fst (Prod.snd (Prod.snd (Prod.snd (goF (eachF (0 :
  Nat) (i + (1 : Int))) i a (y, x) x_1)))) ∧ Prod.fst (Prod.snd (Prod.snd (Prod.snd x))) = Prod.fst (Prod.snd (Prod.snd (Prod.snd (Prod.snd (goF (eachF (0 : Nat) (i + (1 : Int))) i a (y, x) x_1))))) ∧ Prod.snd (Prod.snd
  (Prod.snd (Prod.snd x))) = Prod.snd (Prod.snd (Prod.snd (Prod.snd (Prod.snd (goF (eachF (0 : Nat) (i + (1 : Int))) i a (y, x) x_1))))) ∧ false = false) ∧ x_1 ≤ Int.toNat (a + (1 : Int))) ∧ ∀ (x_2 : Nat), x_2 ≤ Int.toNat
  (a + (1 : Int)) → (IntKind.min IntKind.i64 ≤ (↑x_2 : Int) ∧ (↑x_2 : Int) ≤ IntKind.max IntKind.i64 ∧ (∀ (y_1 : List Int), List.Mem y_1 [Prod.fst (goF (eachF (0 : Nat) (i + (1 : Int))) i a (y, x) x_2)] → List.length y_1 =
  (4 : Nat) ∧ ∀ (y : Int), List.Mem y y_1 → IntKind.min IntKind.i64 ≤ y ∧ y ≤ IntKind.max IntKind.i64) ∧ ∀ (y_1 : List Int × List Int × Int × List Int × Int), List.Mem y_1 [Prod.snd (goF (eachF (0 : Nat) (i + (1 : Int))) i
  a (y, x) x_2)] → List.length (Prod.fst y_1) = (4 : Nat) ∧ (∀ (y : Int), List.Mem y (Prod.fst y_1) → IntKind.min IntKind.i64 ≤ y ∧ y ≤ IntKind.max IntKind.i64) ∧ List.length (Prod.fst (Prod.snd y_1)) = (4 : Nat) ∧ (∀ (y :
  Int), List.Mem y (Prod.fst (Prod.snd y_1)) → IntKind.min IntKind.i64 ≤ y ∧ y ≤ IntKind.max IntKind.i64) ∧ IntKind.min IntKind.i64 ≤ Prod.fst (Prod.snd (Prod.snd y_1)) ∧ Prod.fst (Prod.snd (Prod.snd y_1)) ≤ IntKind.max
  IntKind.i64 ∧ List.length (Prod.fst (Prod.snd (Prod.snd (Prod.snd y_1)))) = (4 : Nat) ∧ (∀ (y : Int), List.Mem y (Prod.fst (Prod.snd (Prod.snd (Prod.snd y_1)))) → IntKind.min IntKind.i64 ≤ y ∧ y ≤ IntKind.max IntKind.i64)
  ∧ IntKind.min IntKind.i64 ≤ Prod.snd (Prod.snd (Prod.snd (Prod.snd y_1))) ∧ Prod.snd (Prod.snd (Prod.snd (Prod.snd y_1))) ≤ IntKind.max IntKind.i64) → bif decide ((↑x_2 : Int) < IntKind.wrap IntKind.i64 (a + (1 : Int)))
  then (((0 : Int) ≤ i ∧ i < (↑(4 : Nat) : Int)) ∧ Int.toNat i < (4 : Nat)) ∧ (IntKind.wrap IntKind.i64 (i + (1 : Int)) = (3 : Int) - (0 : Int) ∧ ((0 : Int) ≤ IntKind.wrap IntKind.i64 (a - (↑x_2 : Int)) ∧ IntKind.wrap
  IntKind.i64 (a - (↑x_2 : Int)) ≤ (12 : Int)) ∧ List.length (List.set (Prod.fst (goF (eachF (0 : Nat) (i + (1 : Int))) i a (y, x) x_2)) (Int.toNat i) (↑x_2 : Int)) = (4 : Nat) ∧ smallV (List.set (Prod.fst (goF (eachF (0 :
  Nat) (i + (1 : Int))) i a (y, x) x_2)) (Int.toNat i) (↑x_2 : Int)) ∧ smallV (Prod.fst (Prod.snd (goF (eachF (0 : Nat) (i + (1 : Int))) i a (y, x) x_2))) ∧ smallV (Prod.fst (Prod.snd (Prod.snd (goF (eachF (0 : Nat) (i + (1
  : Int))) i a (y, x) x_2))))) ∧ bif decide ((0 : Int) < (↑x_2 : Int)) then (((0 : Int) ≤ i ∧ i < (↑(4 : Nat) : Int)) ∧ Int.toNat i < (4 : Nat)) ∧ (IntKind.wrap IntKind.i64 (i + (1 : Int)) = (3 : Int) - (0 : Int) ∧ ((0 :
  Int) ≤ IntKind.wrap IntKind.i64 (a - (↑x_2 : Int)) ∧ IntKind.wrap IntKind.i64 (a - (↑x_2 : Int)) ≤ (12 : Int)) ∧ List.length (List.set (Prod.fst (eachF (0 : Nat) (IntKind.wrap IntKind.i64 (i + (1 : Int))) (IntKind.wrap
  IntKind.i64 (a - (↑x_2 : Int))) (List.set (Prod.fst (goF (eachF (0 : Nat) (i + (1 : Int))) i a (y, x) x_2)) (Int.toNat i) (↑x_2 : Int), Prod.snd (goF (eachF (0 : Nat) (i + (1 : Int))) i a (y, x) x_2)))) (Int.toNat i)
  (IntKind.wrap IntKind.i64 ((0 : Int) - (↑x_2 : Int)))) = (4 : Nat) ∧ smallV (List.set (Prod.fst (eachF (0 : Nat) (IntKind.wrap IntKind.i64 (i + (1 : Int))) (IntKind.wrap IntKind.i64 (a - (↑x_2 : Int))) (List.set (Prod.fst
  (goF (eachF (0 : Nat) (i + (1 : Int))) i a (y, x) x_2)) (Int.toNat i) (↑x_2 : Int), Prod.snd (goF (eachF (0 : Nat) (i + (1 : Int))) i a (y, x) x_2)))) (Int.toNat i) (IntKind.wrap IntKind.i64 ((0 : Int) - (↑x_2 : Int)))) ∧
  smallV (Prod.fst (Prod.snd (eachF (0 : Nat) (IntKind.wrap IntKind.i64 (i + (1 : Int))) (IntKind.wrap IntKind.i64 (a - (↑x_2 : Int))) (List.set (Prod.fst (goF (eachF (0 : Nat) (i + (1 : Int))) i a (y, x) x_2)) (Int.toNat
  i) (↑x_2 : Int), Prod.snd (goF (eachF (0 : Nat) (i + (1 : Int))) i a (y, x) x_2))))) ∧ smallV (Prod.fst (Prod.snd (Prod.snd (eachF (0 : Nat) (IntKind.wrap IntKind.i64 (i + (1 : Int))) (IntKind.wrap IntKind.i64 (a - (↑x_2
  : Int))) (List.set (Prod.fst (goF (eachF (0 : Nat) (i + (1 : Int))) i a (y, x) x_2)) (Int.toNat i) (↑x_2 : Int), Prod.snd (goF (eachF (0 : Nat) (i + (1 : Int))) i a (y, x) x_2))))))) ∧ ∃ (y_1 : Nat), (i = i ∧ a = a ∧ (0 :
  Nat) = (0 : Nat) ∧ (0 : Nat) = (0 : Nat) ∧ (0 : Nat) = (0 : Nat) ∧ IntKind.wrap IntKind.i64 (a + (1 : Int)) = IntKind.wrap IntKind.i64 (a + (1 : Int)) ∧ IntKind.wrap IntKind.i64 ((↑x_2 : Int) + (1 : Int)) = (↑y_1 : Int) ∧
  Prod.fst (eachF (0 : Nat) (IntKind.wrap IntKind.i64 (i + (1 : Int))) (IntKind.wrap IntKind.i64 (a - (↑x_2 : Int))) (List.set (Prod.fst (eachF (0 : Nat) (IntKind.wrap IntKind.i64 (i + (1 : Int))) (IntKind.wrap IntKind.i64
  (a - (↑x_2 : Int))) (List.set (Prod.fst (goF (eachF (0 : Nat) (i + (1 : Int))) i a (y, x) x_2)) (Int.toNat i) (↑x_2 : Int), Prod.snd (goF (eachF (0 : Nat) (i + (1 : Int))) i a (y, x) x_2)))) (Int.toNat i) (IntKind.wrap
  IntKind.i64 ((0 : Int) - (↑x_2 : Int))), Prod.snd (eachF (0 : Nat) (IntKind.wrap IntKind.i64 (i + (1 : Int))) (IntKind.wrap IntKind.i64 (a - (↑x_2 : Int))) (List.set (Prod.fst (goF (eachF (0 : Nat) (i + (1 : Int))) i a
  (y, x) x_2)) (Int.toNat i) (↑x_2 : Int), Prod.snd (goF (eachF (0 : Nat) (i + (1 : Int))) i a (y, x) x_2))))) = Prod.fst (goF (eachF (0 : Nat) (i + (1 : Int))) i a (y, x) y_1) ∧ false = false ∧ (0 : Nat) = (0 : Nat) ∧
  false = false ∧ (0 : Nat) = (0 : Nat) ∧ (0 : Nat) = (0 : Nat) ∧ (0 : Nat) = (0 : Nat) ∧ false = false ∧ Prod.fst (Prod.snd (eachF (0 : Nat) (IntKind.wrap IntKind.i64 (i + (1 : Int))) (IntKind.wrap IntKind.i64 (a - (↑x_2 :
  Int))) (List.set (Prod.fst (eachF (0 : Nat) (IntKind.wrap IntKind.i64 (i + (1 : Int))) (IntKind.wrap IntKind.i64 (a - (↑x_2 : Int))) (List.set (Prod.fst (goF (eachF (0 : Nat) (i + (1 : Int))) i a (y, x) x_2)) (Int.toNat
  i) (↑x_2 : Int), Prod.snd (goF (eachF (0 : Nat) (i + (1 : Int))) i a (y, x) x_2)))) (Int.toNat i) (IntKind.wrap IntKind.i64 ((0 : Int) - (↑x_2 : Int))), Prod.snd (eachF (0 : Nat) (IntKind.wrap IntKind.i64 (i + (1 : Int)))
  (IntKind.wrap IntKind.i64 (a - (↑x_2 : Int))) (List.set (Prod.fst (goF (eachF (0 : Nat) (i + (1 : Int))) i a (y, x) x_2)) (Int.toNat i) (↑x_2 : Int), Prod.snd (goF (eachF (0 : Nat) (i + (1 : Int))) i a (y, x) x_2)))))) =
  Prod.fst (Prod.snd (goF (eachF (0 : Nat) (i + (1 : Int))) i a (y, x) y_1)) ∧ Prod.fst (Prod.snd (Prod.snd (eachF (0 : Nat) (IntKind.wrap IntKind.i64 (i + (1 : Int))) (IntKind.wrap IntKind.i64 (a - (↑x_2 : Int))) (List.set
  (Prod.fst (eachF (0 : Nat) (IntKind.wrap IntKind.i64 (i + (1 : Int))) (IntKind.wrap IntKind.i64 (a - (↑x_2 : Int))) (List.set (Prod.fst (goF (eachF (0 : Nat) (i + (1 : Int))) i a (y, x) x_2)) (Int.toNat i) (↑x_2 : Int),
  Prod.snd (goF (eachF (0 : Nat) (i + (1 : Int))) i a (y, x) x_2)))) (Int.toNat i) (IntKind.wrap IntKind.i64 ((0 : Int) - (↑x_2 : Int))), Prod.snd (eachF (0 : Nat) (IntKind.wrap IntKind.i64 (i + (1 : Int))) (IntKind.wrap
  IntKind.i64 (a - (↑x_2 : Int))) (List.set (Prod.fst (goF (eachF (0 : Nat) (i + (1 : Int))) i a (y, x) x_2)) (Int.toNat i) (↑x_2 : Int), Prod.snd (goF (eachF (0 : Nat) (i + (1 : Int))) i a (y, x) x_2))))))) = Prod.fst
  (Prod.snd (Prod.snd (goF (eachF (0 : Nat) (i + (1 : Int))) i a (y, x) y_1))) ∧ Prod.fst (Prod.snd (Prod.snd (Prod.snd (eachF (0 : Nat) (IntKind.wrap IntKind.i64 (i + (1 : Int))) (IntKind.wrap IntKind.i64 (a - (↑x_2 :
  Int))) (List.set (Prod.fst (eachF (0 : Nat) (IntKind.wrap IntKind.i64 (i + (1 : Int))) (IntKind.wrap IntKind.i64 (a - (↑x_2 : Int))) (List.set (Prod.fst (goF (eachF (0 : Nat) (i + (1 : Int))) i a (y, x) x_2)) (Int.toNat
  i) (↑x_2 : Int), Prod.snd (goF (eachF (0 : Nat) (i + (1 : Int))) i a (y, x) x_2)))) (Int.toNat i) (IntKind.wrap IntKind.i64 ((0 : Int) - (↑x_2 : Int))), Prod.snd (eachF (0 : Nat) (IntKind.wrap IntKind.i64 (i + (1 : Int)))
  (IntKind.wrap IntKind.i64 (a - (↑x_2 : Int))) (List.set (Prod.fst (goF (eachF (0 : Nat) (i + (1 : Int))) i a (y, x) x_2)) (Int.toNat i) (↑x_2 : Int), Prod.snd (goF (eachF (0 : Nat) (i + (1 : Int))) i a (y, x) x_2))))))))
  = Prod.fst (Prod.snd (Prod.snd (Prod.snd (goF (eachF (0 : Nat) (i + (1 : Int))) i a (y, x) y_1)))) ∧ Prod.fst (Prod.snd (Prod.snd (Prod.snd (Prod.snd (eachF (0 : Nat) (IntKind.wrap IntKind.i64 (i + (1 : Int)))
  (IntKind.wrap IntKind.i64 (a - (↑x_2 : Int))) (List.set (Prod.fst (eachF (0 : Nat) (IntKind.wrap IntKind.i64 (i + (1 : Int))) (IntKind.wrap IntKind.i64 (a - (↑x_2 : Int))) (List.set (Prod.fst (goF (eachF (0 : Nat) (i + (1
  : Int))) i a (y, x) x_2)) (Int.toNat i) (↑x_2 : Int), Prod.snd (goF (eachF (0 : Nat) (i + (1 : Int))) i a (y, x) x_2)))) (Int.toNat i) (IntKind.wrap IntKind.i64 ((0 : Int) - (↑x_2 : Int))), Prod.snd (eachF (0 : Nat)
  (IntKind.wrap IntKind.i64 (i + (1 : Int))) (IntKind.wrap IntKind.i64 (a - (↑x_2 : Int))) (List.set (Prod.fst (goF (eachF (0 : Nat) (i + (1 : Int))) i a (y, x) x_2)) (Int.toNat i) (↑x_2 : Int), Prod.snd (goF (eachF (0 :
  Nat) (i + (1 : Int))) i a (y, x) x_2))))))))) = Prod.fst (Prod.snd (Prod.snd (Prod.snd (Prod.snd (goF (eachF (0 : Nat) (i + (1 : Int))) i a (y, x) y_1))))) ∧ Prod.snd (Prod.snd (Prod.snd (Prod.snd (Prod.snd (eachF (0 :
  Nat) (IntKind.wrap IntKind.i64 (i + (1 : Int))) (IntKind.wrap IntKind.i64 (a - (↑x_2 : Int))) (List.set (Prod.fst (eachF (0 : Nat) (IntKind.wrap IntKind.i64 (i + (1 : Int))) (IntKind.wrap IntKind.i64 (a - (↑x_2 : Int)))
  (List.set (Prod.fst (goF (eachF (0 : Nat) (i + (1 : Int))) i a (y, x) x_2)) (Int.toNat i) (↑x_2 : Int), Prod.snd (goF (eachF (0 : Nat) (i + (1 : Int))) i a (y, x) x_2)))) (Int.toNat i) (IntKind.wrap IntKind.i64 ((0 : Int)
  - (↑x_2 : Int))), Prod.snd (eachF (0 : Nat) (IntKind.wrap IntKind.i64 (i + (1 : Int))) (IntKind.wrap IntKind.i64 (a - (↑x_2 : Int))) (List.set (Prod.fst (goF (eachF (0 : Nat) (i + (1 : Int))) i a (y, x) x_2)) (Int.toNat
  i) (↑x_2 : Int), Prod.snd (goF (eachF (0 : Nat) (i + (1 : Int))) i a (y, x) x_2))))))))) = Prod.snd (Prod.snd (Prod.snd (Prod.snd (Prod.snd (goF (eachF (0 : Nat) (i + (1 : Int))) i a (y, x) y_1))))) ∧ false = false) ∧ y_1
  ≤ Int.toNat (a + (1 : Int)) ∧ Int.toNat (a + (1 : Int)) - y_1 < Int.toNat (a + (1 : Int)) - x_2 else ∃ (y_1 : Nat), (i = i ∧ a = a ∧ (0 : Nat) = (0 : Nat) ∧ (0 : Nat) = (0 : Nat) ∧ (0 : Nat) = (0 : Nat) ∧ IntKind.wrap
  IntKind.i64 (a + (1 : Int)) = IntKind.wrap IntKind.i64 (a + (1 : Int)) ∧ IntKind.wrap IntKind.i64 ((↑x_2 : Int) + (1 : Int)) = (↑y_1 : Int) ∧ Prod.fst (eachF (0 : Nat) (IntKind.wrap IntKind.i64 (i + (1 : Int)))
  (IntKind.wrap IntKind.i64 (a - (↑x_2 : Int))) (List.set (Prod.fst (goF (eachF (0 : Nat) (i + (1 : Int))) i a (y, x) x_2)) (Int.toNat i) (↑x_2 : Int), Prod.snd (goF (eachF (0 : Nat) (i + (1 : Int))) i a (y, x) x_2))) =
  Prod.fst (goF (eachF (0 : Nat) (i + (1 : Int))) i a (y, x) y_1) ∧ false = false ∧ (0 : Nat) = (0 : Nat) ∧ false = false ∧ (0 : Nat) = (0 : Nat) ∧ (0 : Nat) = (0 : Nat) ∧ (0 : Nat) = (0 : Nat) ∧ false = false ∧ Prod.fst
  (Prod.snd (eachF (0 : Nat) (IntKind.wrap IntKind.i64 (i + (1 : Int))) (IntKind.wrap IntKind.i64 (a - (↑x_2 : Int))) (List.set (Prod.fst (goF (eachF (0 : Nat) (i + (1 : Int))) i a (y, x) x_2)) (Int.toNat i) (↑x_2 : Int),
  Prod.snd (goF (eachF (0 : Nat) (i + (1 : Int))) i a (y, x) x_2)))) = Prod.fst (Prod.snd (goF (eachF (0 : Nat) (i + (1 : Int))) i a (y, x) y_1)) ∧ Prod.fst (Prod.snd (Prod.snd (eachF (0 : Nat) (IntKind.wrap IntKind.i64 (i
  + (1 : Int))) (IntKind.wrap IntKind.i64 (a - (↑x_2 : Int))) (List.set (Prod.fst (goF (eachF (0 : Nat) (i + (1 : Int))) i a (y, x) x_2)) (Int.toNat i) (↑x_2 : Int), Prod.snd (goF (eachF (0 : Nat) (i + (1 : Int))) i a (y,
  x) x_2))))) = Prod.fst (Prod.snd (Prod.snd (goF (eachF (0 : Nat) (i + (1 : Int))) i a (y, x) y_1))) ∧ Prod.fst (Prod.snd (Prod.snd (Prod.snd (eachF (0 : Nat) (IntKind.wrap IntKind.i64 (i + (1 : Int))) (IntKind.wrap
  IntKind.i64 (a - (↑x_2 : Int))) (List.set (Prod.fst (goF (eachF (0 : Nat) (i + (1 : Int))) i a (y, x) x_2)) (Int.toNat i) (↑x_2 : Int), Prod.snd (goF (eachF (0 : Nat) (i + (1 : Int))) i a (y, x) x_2)))))) = Prod.fst
  (Prod.snd (Prod.snd (Prod.snd (goF (eachF (0 : Nat) (i + (1 : Int))) i a (y, x) y_1)))) ∧ Prod.fst (Prod.snd (Prod.snd (Prod.snd (Prod.snd (eachF (0 : Nat) (IntKind.wrap IntKind.i64 (i + (1 : Int))) (IntKind.wrap
  IntKind.i64 (a - (↑x_2 : Int))) (List.set (Prod.fst (goF (eachF (0 : Nat) (i + (1 : Int))) i a (y, x) x_2)) (Int.toNat i) (↑x_2 : Int), Prod.snd (goF (eachF (0 : Nat) (i + (1 : Int))) i a (y, x) x_2))))))) = Prod.fst
  (Prod.snd (Prod.snd (Prod.snd (Prod.snd (goF (eachF (0 : Nat) (i + (1 : Int))) i a (y, x) y_1))))) ∧ Prod.snd (Prod.snd (Prod.snd (Prod.snd (Prod.snd (eachF (0 : Nat) (IntKind.wrap IntKind.i64 (i + (1 : Int)))
  (IntKind.wrap IntKind.i64 (a - (↑x_2 : Int))) (List.set (Prod.fst (goF (eachF (0 : Nat) (i + (1 : Int))) i a (y, x) x_2)) (Int.toNat i) (↑x_2 : Int), Prod.snd (goF (eachF (0 : Nat) (i + (1 : Int))) i a (y, x) x_2))))))) =
  Prod.snd (Prod.snd (Prod.snd (Prod.snd (Prod.snd (goF (eachF (0 : Nat) (i + (1 : Int))) i a (y, x) y_1))))) ∧ false = false) ∧ y_1 ≤ Int.toNat (a + (1 : Int)) ∧ Int.toNat (a + (1 : Int)) - y_1 < Int.toNat (a + (1 : Int))
  - x_2 else Prod.fst (goF (eachF (0 : Nat) (i + (1 : Int))) i a (y, x) x_2) = Prod.fst (eachF (1 : Nat) i a (y, x)) ∧ false = false ∧ (0 : Nat) = (0 : Nat) ∧ false = false ∧ (0 : Nat) = (0 : Nat) ∧ (0 : Nat) = (0 : Nat) ∧
  (0 : Nat) = (0 : Nat) ∧ false = false ∧ Prod.fst (Prod.snd (goF (eachF (0 : Nat) (i + (1 : Int))) i a (y, x) x_2)) = Prod.fst (Prod.snd (eachF (1 : Nat) i a (y, x))) ∧ Prod.fst (Prod.snd (Prod.snd (goF (eachF (0 : Nat) (i
  + (1 : Int))) i a (y, x) x_2))) = Prod.fst (Prod.snd (Prod.snd (eachF (1 : Nat) i a (y, x)))) ∧ Prod.fst (Prod.snd (Prod.snd (Prod.snd (goF (eachF (0 : Nat) (i + (1 : Int))) i a (y, x) x_2)))) = Prod.fst (Prod.snd
  (Prod.snd (Prod.snd (eachF (1 : Nat) i a (y, x))))) ∧ Prod.fst (Prod.snd (Prod.snd (Prod.snd (Prod.snd (goF (eachF (0 : Nat) (i + (1 : Int))) i a (y, x) x_2))))) = Prod.fst (Prod.snd (Prod.snd (Prod.snd (Prod.snd (eachF
  (1 : Nat) i a (y, x)))))) ∧ Prod.snd (Prod.snd (Prod.snd (Prod.snd (Prod.snd (goF (eachF (0 : Nat) (i + (1 : Int))) i a (y, x) x_2))))) = Prod.snd (Prod.snd (Prod.snd (Prod.snd (Prod.snd (eachF (1 : Nat) i a (y, x)))))) ∧
  false = false
theorem vce84 (i a : Int) (y : List Int) (x : List Int × List Int × Int × List Int × Int) : Pe84 i a y x = vcFun Ce84 (anne84 i a y x) Go.Proofs.Tryd.f84 [⟨.int .i64, i⟩, ⟨.int .i64, a⟩, ⟨.ref .ptr, .ptr 0 (.arr 4 (.int .i64)) [0]⟩, ⟨.ref .ptr, .ptr 1 (.ref .func) [0]⟩, ⟨.ref .ptr, .ptr 2 (.ref .func) [0]⟩] [⟨false, true, .arr 4 (.int .i64), [y]⟩, ⟨false, true, .ref .func, [.func (.func 51) [.ptr 3 (.cons (.arr 4 (.int .i64)) (.cons (.arr 4 (.int .i64)) (.cons (.int .i64) (.cons (.arr 4 (.int .i64)) (.last (.int .i64)))))) [0]] []]⟩, ⟨false, true, .ref .func, [.func (.func 84) [] [.ptr 0 (.arr 4 (.int .i64)) [0], .ptr 1 (.ref .func) [0], .ptr 2 (.ref .func) [0]]]⟩, ⟨false, true, (.cons (.arr 4 (.int .i64)) (.cons (.arr 4 (.int .i64)) (.cons (.int .i64) (.cons (.arr 4 (.int .i64)) (.last (.int .i64)))))), [x]⟩] (oute84 i a y x) := by kernel_rfl

noncomputable def Cf84 : Ctx := ⟨Go.Proofs.Tryd.prog, D, Ge84, (fun _ _ => none), fun _ => []⟩
def annf84 (i a : Int) (y : List Int) (x : List Int × List Int × Int × List Int × Int) : Nat → St → Option Ann := fun _ _ => some ⟨Nat, [0, 1, 2, 3, 4, 26], [1, 2], fun j => [(27, .v (.int .i64) (j : Int))], fun j => [(0, some ⟨false, true, .arr 4 (.int .i64), [(goF (eachF 1 (i + 1)) i a (y, x) j).1]⟩), (3, some ⟨false, true, (.cons (.arr 4 (.int .i64)) (.cons (.arr 4 (.int .i64)) (.cons (.int .i64) (.cons (.arr 4 (.int .i64)) (.last (.int .i64)))))), [(goF (eachF 1 (i + 1)) i a (y, x) j).2]⟩)], fun j => j ≤ (a + 1).toNat, fun j => (a + 1).toNat - j⟩
def outf84 (i a : Int) (y : List Int) (x : List Int × List Int × Int × List Int × Int) : COut := ⟨[i = 3 - (2 : Int), (0 ≤ a ∧ a ≤ 12) ∧ y.length = 4 ∧ smallV y ∧ smallV x.1 ∧ smallV x.2.1], .tup [], [(0, some ⟨false, true, .arr 4 (.int .i64), [(eachF 2 i a (y, x)).1]⟩), (3, some ⟨false, true, (.cons (.arr 4 (.int .i64)) (.cons (.arr 4 (.int .i64)) (.cons (.int .i64) (.cons (.arr 4 (.int .i64)) (.last (.int .i64)))))), [(eachF 2 i a (y, x)).2]⟩)], []⟩
def spf84 : Spec := fun args ins => match args, ins with
  | [⟨.int .i64, i⟩, ⟨.int .i64, a⟩, ⟨.ref .ptr, .ptr 0 (.arr 4 (.int .i64)) [0]⟩, ⟨.ref .ptr, .ptr 1 (.ref .func) [0]⟩, ⟨.ref .ptr, .ptr 2 (.ref .func) [0]⟩], [⟨false, true, .arr 4 (.int .i64), [y]⟩, ⟨false, true, .ref .func, [.func (.func 51) [.ptr 3 (.cons (.arr 4 (.int .i64)) (.cons (.arr 4 (.int .i64)) (.cons (.int .i64) (.cons (.arr 4 (.int .i64)) (.last (.int .i64)))))) [0]] []]⟩, ⟨false, true, .ref .func, [.func (.func 84) [] [.ptr 0 (.arr 4 (.int .i64)) [0], .ptr 1 (.ref .func) [0], .ptr 2 (.ref .func) [0]]]⟩, ⟨false, true, (.cons (.arr 4 (.int .i64)) (.cons (.arr 4 (.int .i64)) (.cons (.int .i64) (.cons (.arr 4 (.int .i64)) (.last (.int .i64)))))), [x]⟩] => some (outf84 i a y x)
  | _, _ => none
def Gf84 := addG Ge84 84 spf84
def Pf84 (i a : Int) (y : List Int) (x : List Int × List Int × Int × List Int × Int) : Prop :=
  bif decide (i = (3 : Int)) then (((0 : Int) ≤ i ∧ i < (↑(4 : Nat) : Int)) ∧ Int.toNat i < (4 : Nat)) ∧ (smallV (Prod.fst x) ∧ smallV (Prod.fst (Prod.snd x)) ∧ smallV (List.set y (Int.toNat i) a)) ∧ bif decide ((0 : Int) <
  a) then (((0 : Int) ≤ i ∧ i < (↑(4 : Nat) : Int)) ∧ Int.toNat i < (4 : Nat)) ∧ (smallV (Prod.fst (lookF x (List.set y (Int.toNat i) a))) ∧ smallV (Prod.fst (Prod.snd (lookF x (List.set y (Int.toNat i) a)))) ∧ smallV
  (List.set (List.set y (Int.toNat i) a) (Int.toNat i) (IntKind.wrap IntKind.i64 ((0 : Int) - a)))) ∧ List.set (List.set y (Int.toNat i) a) (Int.toNat i) (IntKind.wrap IntKind.i64 ((0 : Int) - a)) = Prod.fst (eachF (2 :
  Nat) i a (y, x)) ∧ false = false ∧ (0 : Nat) = (0 : Nat) ∧ false = false ∧ (0 : Nat) = (0 : Nat) ∧ (0 : Nat) = (0 : Nat) ∧ (0 : Nat) = (0 : Nat) ∧ false = false ∧ Prod.fst (lookF (lookF x (List.set y (Int.toNat i) a))
  (List.set (List.set y (Int.toNat i) a) (Int.toNat i) (IntKind.wrap IntKind.i64 ((0 : Int) - a)))) = Prod.fst (Prod.snd (eachF (2 : Nat) i a (y, x))) ∧ Prod.fst (Prod.snd (lookF (lookF x (List.set y (Int.toNat i) a))
  (List.set (List.set y (Int.toNat i) a) (Int.toNat i) (IntKind.wrap IntKind.i64 ((0 : Int) - a))))) = Prod.fst (Prod.snd (Prod.snd (eachF (2 : Nat) i a (y, x)))) ∧ Prod.fst (Prod.snd (Prod.snd (lookF (lookF x (List.set y
  (Int.toNat i) a)) (List.set (List.set y (Int.toNat i) a) (Int.toNat i) (IntKind.wrap IntKind.i64 ((0 : Int) - a)))))) = Prod.fst (Prod.snd (Prod.snd (Prod.snd (eachF (2 : Nat) i a (y, x))))) ∧ Prod.fst (Prod.snd (Prod.snd
  (Prod.snd (lookF (lookF x (List.set y (Int.toNat i) a)) (List.set (List.set y (Int.toNat i) a) (Int.toNat i) (IntKind.wrap IntKind.i64 ((0 : Int) - a))))))) = Prod.fst (Prod.snd (Prod.snd (Prod.snd (Prod.snd (eachF (2 :
  Nat) i a (y, x)))))) ∧ Prod.snd (Prod.snd (Prod.snd (Prod.snd (lookF (lookF x (List.set y (Int.toNat i) a)) (List.set (List.set y (Int.toNat i) a) (Int.toNat i) (IntKind.wrap IntKind.i64 ((0 : Int) - a))))))) = Prod.snd
  (Prod.snd (Prod.snd (Prod.snd (Prod.snd (eachF (2 : Nat) i a (y, x)))))) ∧ false = false else List.set y (Int.toNat i) a = Prod.fst (eachF (2 : Nat) i a (y, x)) ∧ false = false ∧ (0 : Nat) = (0 : Nat) ∧ false = false ∧ (0
  : Nat) = (0 : Nat) ∧ (0 : Nat) = (0 : Nat) ∧ (0 : Nat) = (0 : Nat) ∧ false = false ∧ Prod.fst (lookF x (List.set y (Int.toNat i) a)) = Prod.fst (Prod.snd (eachF (2 : Nat) i a (y, x))) ∧ Prod.fst (Prod.snd (lookF x
  (List.set y (Int.toNat i) a))) = Prod.fst (Prod.snd (Prod.snd (eachF (2 : Nat) i a (y, x)))) ∧ Prod.fst (Prod.snd (Prod.snd (lookF x (List.set y (Int.toNat i) a)))) = Prod.fst (Prod.snd (Prod.snd (Prod.snd (eachF (2 :
  Nat) i a (y, x))))) ∧ Prod.fst (Prod.snd (Prod.snd (Prod.snd (lookF x (List.set y (Int.toNat i) a))))) = Prod.fst (Prod.snd (Prod.snd (Prod.snd (Prod.snd (eachF (2 : Nat) i a (y, x)))))) ∧ Prod.snd (Prod.snd (Prod.snd
  (Prod.snd (lookF x (List.set y (Int.toNat i) a))))) = Prod.snd (Prod.snd (Prod.snd (Prod.snd (Prod.snd (eachF (2 : Nat) i a (y, x)))))) ∧ false = false else ∃ (x_1 : Nat), ((i = i ∧ a = a ∧ (0 : Nat) = (0 : Nat) ∧ (0 :
  Nat) = (0 : Nat) ∧ (0 : Nat) = (0 : Nat) ∧ IntKind.wrap IntKind.i64 (a + (1 : Int)) = IntKind.wrap IntKind.i64 (a + (1 : Int)) ∧ (0 : Int) = (↑x_1 : Int) ∧ y = Prod.fst (goF (eachF (1 : Nat) (i + (1 : Int))) i a (y, x)
  x_1) ∧ false = false ∧ (0 : Nat) = (0 : Nat) ∧ false = false ∧ (0 : Nat) = (0 : Nat) ∧ (0 : Nat) = (0 : Nat) ∧ (0 : Nat) = (0 : Nat) ∧ false = false ∧ Prod.fst x = Prod.fst (Prod.snd (goF (eachF (1 : Nat) (i + (1 : Int)))
  i a (y, x) x_1)) ∧ Prod.fst (Prod.snd x) = Prod.fst (Prod.snd (Prod.snd (goF (eachF (1 : Nat) (i + (1 : Int))) i a (y, x) x_1))) ∧ Prod.fst (Prod.snd (Prod.snd x)) = Prod.fst (Prod.snd (Prod.snd (Prod.snd (goF (eachF (1 :
  Nat) (i + (1 : Int))) i a (y, x) x_1)))) ∧ Prod.fst (Prod.snd (Prod.snd (Prod.snd x))) = Prod.fst (Prod.snd (Prod.snd (Prod.snd (Prod.snd (goF (eachF (1 : Nat) (i + (1 : Int))) i a (y, x) x_1))))) ∧ Prod.snd (Prod.snd
  (Prod.snd (Prod.snd x))) = Prod.snd (Prod.snd (Prod.snd (Prod.snd (Prod.snd (goF (eachF (1 : Nat) (i + (1 : Int))) i a (y, x) x_1))))) ∧ false = false) ∧ x_1 ≤ Int.toNat (a + (1 : Int))) ∧ ∀ (x_2 : Nat), x_2 ≤ Int.toNat
  (a + (1 : Int)) → (IntKind.min IntKind.i64 ≤ (↑x_2 : Int) ∧ (↑x_2 : Int) ≤ IntKind.max IntKind.i64 ∧ (∀ (y_1 : List Int), List.Mem y_1 [Prod.fst (goF (eachF (1 : Nat) (i + (1 : Int))) i a (y, x) x_2)] → List.length y_1 =
  (4 : Nat) ∧ ∀ (y : Int), List.Mem y y_1 → IntKind.min IntKind.i64 ≤ y ∧ y ≤ IntKind.max IntKind.i64) ∧ ∀ (y_1 : List Int × List Int × Int × List Int × Int), List.Mem y_1 [Prod.snd (goF (eachF (1 : Nat) (i + (1 : Int))) i
  a (y, x) x_2)] → List.length (Prod.fst y_1) = (4 : Nat) ∧ (∀ (y : Int), List.Mem y (Prod.fst y_1) → IntKind.min IntKind.i64 ≤ y ∧ y ≤ IntKind.max IntKind.i64) ∧ List.length (Prod.fst (Prod.snd y_1)) = (4 : Nat) ∧ (∀ (y :
  Int), List.Mem y (Prod.fst (Prod.snd y_1)) → IntKind.min IntKind.i64 ≤ y ∧ y ≤ IntKind.max IntKind.i64) ∧ IntKind.min IntKind.i64 ≤ Prod.fst (Prod.snd (Prod.snd y_1)) ∧ Prod.fst (Prod.snd (Prod.snd y_1)) ≤ IntKind.max
  IntKind.i64 ∧ List.length (Prod.fst (Prod.snd (Prod.snd (Prod.snd y_1)))) = (4 : Nat) ∧ (∀ (y : Int), List.Mem y (Prod.fst (Prod.snd (Prod.snd (Prod.snd y_1)))) → IntKind.min IntKind.i64 ≤ y ∧ y ≤ IntKind.max IntKind.i64)
  ∧ IntKind.min IntKind.i64 ≤ Prod.snd (Prod.snd (Prod.snd (Prod.snd y_1))) ∧ Prod.snd (Prod.snd (Prod.snd (Prod.snd y_1))) ≤ IntKind.max IntKind.i64) → bif decide ((↑x_2 : Int) < IntKind.wrap IntKind.i64 (a + (1 : Int)))
  then (((0 : Int) ≤ i ∧ i < (↑(4 : Nat) : Int)) ∧ Int.toNat i < (4 : Nat)) ∧ (IntKind.wrap IntKind.i64 (i + (1 : Int)) = (3 : Int) - (1 : Int) ∧ ((0 : Int) ≤ IntKind.wrap IntKind.i64 (a - (↑x_2 : Int)) ∧ IntKind.wrap
  IntKind.i64 (a - (↑x_2 : Int)) ≤ (12 : Int)) ∧ List.length (List.set (Prod.fst (goF (eachF (1 : Nat) (i + (1 : Int))) i a (y, x) x_2)) (Int.toNat i) (↑x_2 : Int)) = (4 : Nat) ∧ smallV (List.set (Prod.fst (goF (eachF (1 :
  Nat) (i + (1 : Int))) i a (y, x) x_2)) (Int.toNat i) (↑x_2 : Int)) ∧ smallV (Prod.fst (Prod.snd (goF (eachF (1 : Nat) (i + (1 : Int))) i a (y, x) x_2))) ∧ smallV (Prod.fst (Prod.snd (Prod.snd (goF (eachF (1 : Nat) (i + (1
  : Int))) i a (y, x) x_2))))) ∧ bif decide ((0 : Int) < (↑x_2 : Int)) then (((0 : Int) ≤ i ∧ i < (↑(4 : Nat) : Int)) ∧ Int.toNat i < (4 : Nat)) ∧ (IntKind.wrap IntKind.i64 (i + (1 : Int)) = (3 : Int) - (1 : Int) ∧ ((0 :
  Int) ≤ IntKind.wrap IntKind.i64 (a - (↑x_2 : Int)) ∧ IntKind.wrap IntKind.i64 (a - (↑x_2 : Int)) ≤ (12 : Int)) ∧ List.length (List.set (Prod.fst (eachF (1 : Nat) (IntKind.wrap IntKind.i64 (i + (1 : Int))) (IntKind.wrap
  IntKind.i64 (a - (↑x_2 : Int))) (List.set (Prod.fst (goF (eachF (1 : Nat) (i + (1 : Int))) i a (y, x) x_2)) (Int.toNat i) (↑x_2 : Int), Prod.snd (goF (eachF (1 : Nat) (i + (1 : Int))) i a (y, x) x_2)))) (Int.toNat i)
  (IntKind.wrap IntKind.i64 ((0 : Int) - (↑x_2 : Int)))) = (4 : Nat) ∧ smallV (List.set (Prod.fst (eachF (1 : Nat) (IntKind.wrap IntKind.i64 (i + (1 : Int))) (IntKind.wrap IntKind.i64 (a - (↑x_2 : Int))) (List.set (Prod.fst
  (goF (eachF (1 : Nat) (i + (1 : Int))) i a (y, x) x_2)) (Int.toNat i) (↑x_2 : Int), Prod.snd (goF (eachF (1 : Nat) (i + (1 : Int))) i a (y, x) x_2)))) (Int.toNat i) (IntKind.wrap IntKind.i64 ((0 : Int) - (↑x_2 : Int)))) ∧
  smallV (Prod.fst (Prod.snd (eachF (1 : Nat) (IntKind.wrap IntKind.i64 (i + (1 : Int))) (IntKind.wrap IntKind.i64 (a - (↑x_2 : Int))) (List.set (Prod.fst (goF (eachF (1 : Nat) (i + (1 : Int))) i a (y, x) x_2)) (Int.toNat
  i) (↑x_2 : Int), Prod.snd (goF (eachF (1 : Nat) (i + (1 : Int))) i a (y, x) x_2))))) ∧ smallV (Prod.fst (Prod.snd (Prod.snd (eachF (1 : Nat) (IntKind.wrap IntKind.i64 (i + (1 : Int))) (IntKind.wrap IntKind.i64 (a - (↑x_2
  : Int))) (List.set (Prod.fst (goF (eachF (1 : Nat) (i + (1 : Int))) i a (y, x) x_2)) (Int.toNat i) (↑x_2 : Int), Prod.snd (goF (eachF (1 : Nat) (i + (1 : Int))) i a (y, x) x_2))))))) ∧ ∃ (y_1 : Nat), (i = i ∧ a = a ∧ (0 :
  Nat) = (0 : Nat) ∧ (0 : Nat) = (0 : Nat) ∧ (0 : Nat) = (0 : Nat) ∧ IntKind.wrap IntKind.i64 (a + (1 : Int)) = IntKind.wrap IntKind.i64 (a + (1 : Int)) ∧ IntKind.wrap IntKind.i64 ((↑x_2 : Int) + (1 : Int)) = (↑y_1 : Int) ∧
  Prod.fst (eachF (1 : Nat) (IntKind.wrap IntKind.i64 (i + (1 : Int))) (IntKind.wrap IntKind.i64 (a - (↑x_2 : Int))) (List.set (Prod.fst (eachF (1 : Nat) (IntKind.wrap IntKind.i64 (i + (1 : Int))) (IntKind.wrap IntKind.i64
  (a - (↑x_2 : Int))) (List.set (Prod.fst (goF (eachF (1 : Nat) (i + (1 : Int))) i a (y, x) x_2)) (Int.toNat i) (↑x_2 : Int), Prod.snd (goF (eachF (1 : Nat) (i + (1 : Int))) i a (y, x) x_2)))) (Int.toNat i) (IntKind.wrap
  IntKind.i64 ((0 : Int) - (↑x_2 : Int))), Prod.snd (eachF (1 : Nat) (IntKind.wrap IntKind.i64 (i + (1 : Int))) (IntKind.wrap IntKind.i64 (a - (↑x_2 : Int))) (List.set (Prod.fst (goF (eachF (1 : Nat) (i + (1 : Int))) i a
  (y, x) x_2)) (Int.toNat i) (↑x_2 : Int), Prod.snd (goF (eachF (1 : Nat) (i + (1 : Int))) i a (y, x) x_2))))) = Prod.fst (goF (eachF (1 : Nat) (i + (1 : Int))) i a (y, x) y_1) ∧ false = false ∧ (0 : Nat) = (0 : Nat) ∧
  false = false ∧ (0 : Nat) = (0 : Nat) ∧ (0 : Nat) = (0 : Nat) ∧ (0 : Nat) = (0 : Nat) ∧ false = false ∧ Prod.fst (Prod.snd (eachF (1 : Nat) (IntKind.wrap IntKind.i64 (i + (1 : Int))) (IntKind.wrap IntKind.i64 (a - (↑x_2 :
  Int))) (List.set (Prod.fst (eachF (1 : Nat) (IntKind.wrap IntKind.i64 (i + (1 : Int))) (IntKind.wrap IntKind.i64 (a - (↑x_2 : Int))) (List.set (Prod.fst (goF (eachF (1 : Nat) (i + (1 : Int))) i a (y, x) x_2)) (Int.toNat
  i) (↑x_2 : Int), Prod.snd (goF (eachF (1 : Nat) (i + (1 : Int))) i a (y, x) x_2)))) (Int.toNat i) (IntKind.wrap IntKind.i64 ((0 : Int) - (↑x_2 : Int))), Prod.snd (eachF (1 : Nat) (IntKind.wrap IntKind.i64 (i + (1 : Int)))
  (IntKind.wrap IntKind.i64 (a - (↑x_2 : Int))) (List.set (Prod.fst (goF (eachF (1 : Nat) (i + (1 : Int))) i a (y, x) x_2)) (Int.toNat i) (↑x_2 : Int), Prod.snd (goF (eachF (1 : Nat) (i + (1 : Int))) i a (y, x) x_2)))))) =
  Prod.fst (Prod.snd (goF (eachF (1 : Nat) (i + (1 : Int))) i a (y, x) y_1)) ∧ Prod.fst (Prod.snd (Prod.snd (eachF (1 : Nat) (IntKind.wrap IntKind.i64 (i + (1 : Int))) (IntKind.wrap IntKind.i64 (a - (↑x_2 : Int))) (List.set
  (Prod.fst (eachF (1 : Nat) (IntKind.wrap IntKind.i64 (i + (1 : Int))) (IntKind.wrap IntKind.i64 (a - (↑x_2 : Int))) (List.set (Prod.fst (goF (eachF (1 : Nat) (i + (1 : Int))) i a (y, x) x_2)) (Int.toNat i) (↑x_2 : Int),
  Prod.snd (goF (eachF (1 : Nat) (i + (1 : Int))) i a (y, x) x_2)))) (Int.toNat i) (IntKind.wrap IntKind.i64 ((0 : Int) - (↑x_2 : Int))), Prod.snd (eachF (1 : Nat) (IntKind.wrap IntKind.i64 (i + (1 : Int))) (IntKind.wrap
  IntKind.i64 (a - (↑x_2 : Int))) (List.set (Prod.fst (goF (eachF (1 : Nat) (i + (1 : Int))) i a (y, x) x_2)) (Int.toNat i) (↑x_2 : Int), Prod.snd (goF (eachF (1 : Nat) (i + (1 : Int))) i a (y, x) x_2))))))) = Prod.fst
  (Prod.snd (Prod.snd (goF (eachF (1 : Nat) (i + (1 : Int))) i a (y, x) y_1))) ∧ Prod.fst (Prod.snd (Prod.snd (Prod.snd (eachF (1 : Nat) (IntKind.wrap IntKind.i64 (i + (1 : Int))) (IntKind.wrap IntKind.i64 (a - (↑x_2 :
  Int))) (List.set (Prod.fst (eachF (1 : Nat) (IntKind.wrap IntKind.i64 (i + (1 : Int))) (IntKind.wrap IntKind.i64 (a - (↑x_2 : Int))) (List.set (Prod.fst (goF (eachF (1 : Nat) (i + (1 : Int))) i a (y, x) x_2)) (Int.toNat
  i) (↑x_2 : Int), Prod.snd (goF (eachF (1 : Nat) (i + (1 : Int))) i a (y, x) x_2)))) (Int.toNat i) (IntKind.wrap IntKind.i64 ((0 : Int) - (↑x_2 : Int))), Prod.snd (eachF (1 : Nat) (IntKind.wrap IntKind.i64 (i + (1 : Int)))
  (IntKind.wrap IntKind.i64 (a - (↑x_2 : Int))) (List.set (Prod.fst (goF (eachF (1 : Nat) (i + (1 : Int))) i a (y, x) x_2)) (Int.toNat i) (↑x_2 : Int), Prod.snd (goF (eachF (1 : Nat) (i + (1 : Int))) i a (y, x) x_2))))))))
  = Prod.fst (Prod.snd (Prod.snd (Prod.snd (goF (eachF (1 : Nat) (i + (1 : Int))) i a (y, x) y_1)))) ∧ Prod.fst (Prod.snd (Prod.snd (Prod.snd (Prod.snd (eachF (1 : Nat) (IntKind.wrap IntKind.i64 (i + (1 : Int)))
  (IntKind.wrap IntKind.i64 (a - (↑x_2 : Int))) (List.set (Prod.fst (eachF (1 : Nat) (IntKind.wrap IntKind.i64 (i + (1 : Int))) (IntKind.wrap IntKind.i64 (a - (↑x_2 : Int))) (List.set (Prod.fst (goF (eachF (1 : Nat) (i + (1
  : Int))) i a (y, x) x_2)) (Int.toNat i) (↑x_2 : Int), Prod.snd (goF (eachF (1 : Nat) (i + (1 : Int))) i a (y, x) x_2)))) (Int.toNat i) (IntKind.wrap IntKind.i64 ((0 : Int) - (↑x_2 : Int))), Prod.snd (eachF (1 : Nat)
  (IntKind.wrap IntKind.i64 (i + (1 : Int))) (IntKind.wrap IntKind.i64 (a - (↑x_2 : Int))) (List.set (Prod.fst (goF (eachF (1 : Nat) (i + (1 : Int))) i a (y, x) x_2)) (Int.toNat i) (↑x_2 : Int), Prod.snd (goF (eachF (1 :
  Nat) (i + (1 : Int))) i a (y, x) x_2))))))))) = Prod.fst (Prod.snd (Prod.snd (Prod.snd (Prod.snd (goF (eachF (1 : Nat) (i + (1 : Int))) i a (y, x) y_1))))) ∧ Prod.snd (Prod.snd (Prod.snd (Prod.snd (Prod.snd (eachF (1 :
  Nat) (IntKind.wrap IntKind.i64 (i + (1 : Int))) (IntKind.wrap IntKind.i64 (a - (↑x_2 : Int))) (List.set (Prod.fst (eachF (1 : Nat) (IntKind.wrap IntKind.i64 (i + (1 : Int))) (IntKind.wrap IntKind.i64 (a - (↑x_2 : Int)))
  (List.set (Prod.fst (goF (eachF (1 : Nat) (i + (1 : Int))) i a (y, x) x_2)) (Int.toNat i) (↑x_2 : Int), Prod.snd (goF (eachF (1 : Nat) (i + (1 : Int))) i a (y, x) x_2)))) (Int.toNat i) (IntKind.wrap IntKind.i64 ((0 : Int)
  - (↑x_2 : Int))), Prod.snd (eachF (1 : Nat) (IntKind.wrap IntKind.i64 (i + (1 : Int))) (IntKind.wrap IntKind.i64 (a - (↑x_2 : Int))) (List.set (Prod.fst (goF (eachF (1 : Nat) (i + (1 : Int))) i a (y, x) x_2)) (Int.toNat
  i) (↑x_2 : Int), Prod.snd (goF (eachF (1 : Nat) (i + (1 : Int))) i a (y, x) x_2))))))))) = Prod.snd (Prod.snd (Prod.snd (Prod.snd (Prod.snd (goF (eachF (1 : Nat) (i + (1 : Int))) i a (y, x) y_1))))) ∧ false = false) ∧ y_1
  ≤ Int.toNat (a + (1 : Int)) ∧ Int.toNat (a + (1 : Int)) - y_1 < Int.toNat (a + (1 : Int)) - x_2 else ∃ (y_1 : Nat), (i = i ∧ a = a ∧ (0 : Nat) = (0 : Nat) ∧ (0 : Nat) = (0 : Nat) ∧ (0 : Nat) = (0 : Nat) ∧ IntKind.wrap
  IntKind.i64 (a + (1 : Int)) = IntKind.wrap IntKind.i64 (a + (1 : Int)) ∧ IntKind.wrap IntKind.i64 ((↑x_2 : Int) + (1 : Int)) = (↑y_1 : Int) ∧ Prod.fst (eachF (1 : Nat) (IntKind.wrap IntKind.i64 (i + (1 : Int)))
  (IntKind.wrap IntKind.i64 (a - (↑x_2 : Int))) (List.set (Prod.fst (goF (eachF (1 : Nat) (i + (1 : Int))) i a (y, x) x_2)) (Int.toNat i) (↑x_2 : Int), Prod.snd (goF (eachF (1 : Nat) (i + (1 : Int))) i a (y, x) x_2))) =
  Prod.fst (goF (eachF (1 : Nat) (i + (1 : Int))) i a (y, x) y_1) ∧ false = false ∧ (0 : Nat) = (0 : Nat) ∧ false = false ∧ (0 : Nat) = (0 : Nat) ∧ (0 : Nat) = (0 : Nat) ∧ (0 : Nat) = (0 : Nat) ∧ false = false ∧ Prod.fst
  (Prod.snd (eachF (1 : Nat) (IntKind.wrap IntKind.i64 (i + (1 : Int))) (IntKind.wrap IntKind.i64 (a - (↑x_2 : Int))) (List.set (Prod.fst (goF (eachF (1 : Nat) (i + (1 : Int))) i a (y, x) x_2)) (Int.toNat i) (↑x_2 : Int),
  Prod.snd (goF (eachF (1 : Nat) (i + (1 : Int))) i a (y, x) x_2)))) = Prod.fst (Prod.snd (goF (eachF (1 : Nat) (i + (1 : Int))) i a (y, x) y_1)) ∧ Prod.fst (Prod.snd (Prod.snd (eachF (1 : Nat) (IntKind.wrap IntKind.i64 (i
  + (1 : Int))) (IntKind.wrap IntKind.i64 (a - (↑x_2 : Int))) (List.set (Prod.fst (goF (eachF (1 : Nat) (i + (1 : Int))) i a (y, x) x_2)) (Int.toNat i) (↑x_2 : Int), Prod.snd (goF (eachF (1 : Nat) (i + (1 : Int))) i a (y,
  x) x_2))))) = Prod.fst (Prod.snd (Prod.snd (goF (eachF (1 : Nat) (i + (1 : Int))) i a (y, x) y_1))) ∧ Prod.fst (Prod.snd (Prod.snd (Prod.snd (eachF (1 : Nat) (IntKind.wrap IntKind.i64 (i + (1 : Int))) (IntKind.wrap
  IntKind.i64 (a - (↑x_2 : Int))) (List.set (Prod.fst (goF (eachF (1 : Nat) (i + (1 : Int))) i a (y, x) x_2)) (Int.toNat i) (↑x_2 : Int), Prod.snd (goF (eachF (1 : Nat) (i + (1 : Int))) i a (y, x) x_2)))))) = Prod.fst
  (Prod.snd (Prod.snd (Prod.snd (goF (eachF (1 : Nat) (i + (1 : Int))) i a (y, x) y_1)))) ∧ Prod.fst (Prod.snd (Prod.snd (Prod.snd (Prod.snd (eachF (1 : Nat) (IntKind.wrap IntKind.i64 (i + (1 : Int))) (IntKind.wrap
  IntKind.i64 (a - (↑x_2 : Int))) (List.set (Prod.fst (goF (eachF (1 : Nat) (i + (1 : Int))) i a (y, x) x_2)) (Int.toNat i) (↑x_2 : Int), Prod.snd (goF (eachF (1 : Nat) (i + (1 : Int))) i a (y, x) x_2))))))) = Prod.fst
  (Prod.snd (Prod.snd (Prod.snd (Prod.snd (goF (eachF (1 : Nat) (i + (1 : Int))) i a (y, x) y_1))))) ∧ Prod.snd (Prod.snd (Prod.snd (Prod.snd (Prod.snd (eachF (1 : Nat) (IntKind.wrap IntKind.i64 (i + (1 : Int)))
  (IntKind.wrap IntKind.i64 (a - (↑x_2 : Int))) (List.set (Prod.fst (goF (eachF (1 : Nat) (i + (1 : Int))) i a (y, x) x_2)) (Int.toNat i) (↑x_2 : Int), Prod.snd (goF (eachF (1 : Nat) (i + (1 : Int))) i a (y, x) x_2))))))) =
  Prod.snd (Prod.snd (Prod.snd (Prod.snd (Prod.snd (goF (eachF (1 : Nat) (i + (1 : Int))) i a (y, x) y_1))))) ∧ false = false) ∧ y_1 ≤ Int.toNat (a + (1 : Int)) ∧ Int.toNat (a + (1 : Int)) - y_1 < Int.toNat (a + (1 : Int))
  - x_2 else Prod.fst (goF (eachF (1 : Nat) (i + (1 : Int))) i a (y, x) x_2) = Prod.fst (eachF (2 : Nat) i a (y, x)) ∧ false = false ∧ (0 : Nat) = (0 : Nat) ∧ false = false ∧ (0 : Nat) = (0 : Nat) ∧ (0 : Nat) = (0 : Nat) ∧
  (0 : Nat) = (0 : Nat) ∧ false = false ∧ Prod.fst (Prod.snd (goF (eachF (1 : Nat) (i + (1 : Int))) i a (y, x) x_2)) = Prod.fst (Prod.snd (eachF (2 : Nat) i a (y, x))) ∧ Prod.fst (Prod.snd (Prod.snd (goF (eachF (1 : Nat) (i
  + (1 : Int))) i a (y, x) x_2))) = Prod.fst (Prod.snd (Prod.snd (eachF (2 : Nat) i a (y, x)))) ∧ Prod.fst (Prod.snd (Prod.snd (Prod.snd (goF (eachF (1 : Nat) (i + (1 : Int))) i a (y, x) x_2)))) = Prod.fst (Prod.snd
  (Prod.snd (Prod.snd (eachF (2 : Nat) i a (y, x))))) ∧ Prod.fst (Prod.snd (Prod.snd (Prod.snd (Prod.snd (goF (eachF (1 : Nat) (i + (1 : Int))) i a (y, x) x_2))))) = Prod.fst (Prod.snd (Prod.snd (Prod.snd (Prod.snd (eachF
  (2 : Nat) i a (y, x)))))) ∧ Prod.snd (Prod.snd (Prod.snd (Prod.snd (Prod.snd (goF (eachF (1 : Nat) (i + (1 : Int))) i a (y, x) x_2))))) = Prod.snd (Prod.snd (Prod.snd (Prod.snd (Prod.snd (eachF (2 : Nat) i a (y, x)))))) ∧
  false = false
theorem vcf84 (i a : Int) (y : List Int) (x : List Int × List Int × Int × List Int × Int) : Pf84 i a y x = vcFun Cf84 (annf84 i a y x) Go.Proofs.Tryd.f84 [⟨.int .i64, i⟩, ⟨.int .i64, a⟩, ⟨.ref .ptr, .ptr 0 (.arr 4 (.int .i64)) [0]⟩, ⟨.ref .ptr, .ptr 1 (.ref .func) [0]⟩, ⟨.ref .ptr, .ptr 2 (.ref .func) [0]⟩] [⟨false, true, .arr 4 (.int .i64), [y]⟩, ⟨false, true, .ref .func, [.func (.func 51) [.ptr 3 (.cons (.arr 4 (.int .i64)) (.cons (.arr 4 (.int .i64)) (.cons (.int .i64) (.cons (.arr 4 (.int .i64)) (.last (.int .i64)))))) [0]] []]⟩, ⟨false, true, .ref .func, [.func (.func 84) [] [.ptr 0 (.arr 4 (.int .i64)) [0], .ptr 1 (.ref .func) [0], .ptr 2 (.ref .func) [0]]]⟩, ⟨false, true, (.cons (.arr 4 (.int .i64)) (.cons (.arr 4 (.int .i64)) (.cons (.int .i64) (.cons (.arr 4 (.int .i64)) (.last (.int .i64)))))), [x]⟩] (outf84 i a y x) := by kernel_rfl

noncomputable def Cg84 : Ctx := ⟨Go.Proofs.Tryd.prog, D, Gf84, (fun _ _ => none), fun _ => []⟩
def anng84 (i a : Int) (y : List Int) (x : List Int × List Int × Int × List Int × Int) : Nat → St → Option Ann := fun _ _ => some ⟨Nat, [0, 1, 2, 3, 4, 26], [1, 2], fun j => [(27, .v (.int .i64) (j : Int))], fun j => [(0, some ⟨false, true, .arr 4 (.int .i64), [(goF (eachF 2 (i + 1)) i a (y, x) j).1]⟩), (3, some ⟨false, true, (.cons (.arr 4 (.int .i64)) (.cons (.arr 4 (.int .i64)) (.cons (.int .i64) (.cons (.arr 4 (.int .i64)) (.last (.int .i64)))))), [(goF (eachF 2 (i + 1)) i a (y, x) j).2]⟩)], fun j => j ≤ (a + 1).toNat, fun j => (a + 1).toNat - j⟩
def outg84 (i a : Int) (y : List Int) (x : List Int × List Int × Int × List Int × Int) : COut := ⟨[i = 3 - (3 : Int), (0 ≤ a ∧ a ≤ 12) ∧ y.length = 4 ∧ smallV y ∧ smallV x.1 ∧ smallV x.2.1], .tup [], [(0, some ⟨false, true, .arr 4 (.int .i64), [(eachF 3 i a (y, x)).1]⟩), (3, some ⟨false, true, (.cons (.arr 4 (.int .i64)) (.cons (.arr 4 (.int .i64)) (.cons (.int .i64) (.cons (.arr 4 (.int .i64)) (.last (.int .i64)))))), [(eachF 3 i a (y, x)).2]⟩)], []⟩
def spg84 : Spec := fun args ins => match args, ins with
  | [⟨.int .i64, i⟩, ⟨.int .i64, a⟩, ⟨.ref .ptr, .ptr 0 (.arr 4 (.int .i64)) [0]⟩, ⟨.ref .ptr, .ptr 1 (.ref .func) [0]⟩, ⟨.ref .ptr, .ptr 2 (.ref .func) [0]⟩], [⟨false, true, .arr 4 (.int .i64), [y]⟩, ⟨false, true, .ref .func, [.func (.func 51) [.ptr 3 (.cons (.arr 4 (.int .i64)) (.cons (.arr 4 (.int .i64)) (.cons (.int .i64) (.cons (.arr 4 (.int .i64)) (.last (.int .i64)))))) [0]] []]⟩, ⟨false, true, .ref .func, [.func (.func 84) [] [.ptr 0 (.arr 4 (.int .i64)) [0], .ptr 1 (.ref .func) [0], .ptr 2 (.ref .func) [0]]]⟩, ⟨false, true, (.cons (.arr 4 (.int .i64)) (.cons (.arr 4 (.int .i64)) (.cons (.int .i64) (.cons (.arr 4 (.int .i64)) (.last (.int .i64)))))), [x]⟩] => some (outg84 i a y x)
  | _, _ => none
def Gg84 := addG Gf84 84 spg84
def Pg84 (i a : Int) (y : List Int) (x : List Int × List Int × Int × List Int × Int) : Prop :=
  bif decide (i = (3 : Int)) then (((0 : Int) ≤ i ∧ i < (↑(4 : Nat) : Int)) ∧ Int.toNat i < (4 : Nat)) ∧ (smallV (Prod.fst x) ∧ smallV (Prod.fst (Prod.snd x)) ∧ smallV (List.set y (Int.toNat i) a)) ∧ bif decide ((0 : Int) <
  a) then (((0 : Int) ≤ i ∧ i < (↑(4 : Nat) : Int)) ∧ Int.toNat i < (4 : Nat)) ∧ (smallV (Prod.fst (lookF x (List.set y (Int.toNat i) a))) ∧ smallV (Prod.fst (Prod.snd (lookF x (List.set y (Int.toNat i) a)))) ∧ smallV
  (List.set (List.set y (Int.toNat i) a) (Int.toNat i) (IntKind.wrap IntKind.i64 ((0 : Int) - a)))) ∧ List.set (List.set y (Int.toNat i) a) (Int.toNat i) (IntKind.wrap IntKind.i64 ((0 : Int) - a)) = Prod.fst (eachF (3 :
  Nat) i a (y, x)) ∧ false = false ∧ (0 : Nat) = (0 : Nat) ∧ false = false ∧ (0 : Nat) = (0 : Nat) ∧ (0 : Nat) = (0 : Nat) ∧ (0 : Nat) = (0 : Nat) ∧ false = false ∧ Prod.fst (lookF (lookF x (List.set y (Int.toNat i) a))
  (List.set (List.set y (Int.toNat i) a) (Int.toNat i) (IntKind.wrap IntKind.i64 ((0 : Int) - a)))) = Prod.fst (Prod.snd (eachF (3 : Nat) i a (y, x))) ∧ Prod.fst (Prod.snd (lookF (lookF x (List.set y (Int.toNat i) a))
  (List.set (List.set y (Int.toNat i) a) (Int.toNat i) (IntKind.wrap IntKind.i64 ((0 : Int) - a))))) = Prod.fst (Prod.snd (Prod.snd (eachF (3 : Nat) i a (y, x)))) ∧ Prod.fst (Prod.snd (Prod.snd (lookF (lookF x (List.set y
  (Int.toNat i) a)) (List.set (List.set y (Int.toNat i) a) (Int.toNat i) (IntKind.wrap IntKind.i64 ((0 : Int) - a)))))) = Prod.fst (Prod.snd (Prod.snd (Prod.snd (eachF (3 : Nat) i a (y, x))))) ∧ Prod.fst (Prod.snd (Prod.snd
  (Prod.snd (lookF (lookF x (List.set y (Int.toNat i) a)) (List.set (List.set y (Int.toNat i) a) (Int.toNat i) (IntKind.wrap IntKind.i64 ((0 : Int) - a))))))) = Prod.fst (Prod.snd (Prod.snd (Prod.snd (Prod.snd (eachF (3 :
  Nat) i a (y, x)))))) ∧ Prod.snd (Prod.snd (Prod.snd (Prod.snd (lookF (lookF x (List.set y (Int.toNat i) a)) (List.set (List.set y (Int.toNat i) a) (Int.toNat i) (IntKind.wrap IntKind.i64 ((0 : Int) - a))))))) = Prod.snd
  (Prod.snd (Prod.snd (Prod.snd (Prod.snd (eachF (3 : Nat) i a (y, x)))))) ∧ false = false else List.set y (Int.toNat i) a = Prod.fst (eachF (3 : Nat) i a (y, x)) ∧ false = false ∧ (0 : Nat) = (0 : Nat) ∧ false = false ∧ (0
  : Nat) = (0 : Nat) ∧ (0 : Nat) = (0 : Nat) ∧ (0 : Nat) = (0 : Nat) ∧ false = false ∧ Prod.fst (lookF x (List.set y (Int.toNat i) a)) = Prod.fst (Prod.snd (eachF (3 : Nat) i a (y, x))) ∧ Prod.fst (Prod.snd (lookF x
  (List.set y (Int.toNat i) a))) = Prod.fst (Prod.snd (Prod.snd (eachF (3 : Nat) i a (y, x)))) ∧ Prod.fst (Prod.snd (Prod.snd (lookF x (List.set y (Int.toNat i) a)))) = Prod.fst (Prod.snd (Prod.snd (Prod.snd (eachF (3 :
  Nat) i a (y, x))))) ∧ Prod.fst (Prod.snd (Prod.snd (Prod.snd (lookF x (List.set y (Int.toNat i) a))))) = Prod.fst (Prod.snd (Prod.snd (Prod.snd (Prod.snd (eachF (3 : Nat) i a (y, x)))))) ∧ Prod.snd (Prod.snd (Prod.snd
  (Prod.snd (lookF x (List.set y (Int.toNat i) a))))) = Prod.snd (Prod.snd (Prod.snd (Prod.snd (Prod.snd (eachF (3 : Nat) i a (y, x)))))) ∧ false = false else ∃ (x_1 : Nat), ((i = i ∧ a = a ∧ (0 : Nat) = (0 : Nat) ∧ (0 :
  Nat) = (0 : Nat) ∧ (0 : Nat) = (0 : Nat) ∧ IntKind.wrap IntKind.i64 (a + (1 : Int)) = IntKind.wrap IntKind.i64 (a + (1 : Int)) ∧ (0 : Int) = (↑x_1 : Int) ∧ y = Prod.fst (goF (eachF (2 : Nat) (i + (1 : Int))) i a (y, x)
  x_1) ∧ false = false ∧ (0 : Nat) = (0 : Nat) ∧ false = false ∧ (0 : Nat) = (0 : Nat) ∧ (0 : Nat) = (0 : Nat) ∧ (0 : Nat) = (0 : Nat) ∧ false = false ∧ Prod.fst x = Prod.fst (Prod.snd (goF (eachF (2 : Nat) (i + (1 : Int)))
  i a (y, x) x_1)) ∧ Prod.fst (Prod.snd x) = Prod.fst (Prod.snd (Prod.snd (goF (eachF (2 : Nat) (i + (1 : Int))) i a (y, x) x_1))) ∧ Prod.fst (Prod.snd (Prod.snd x)) = Prod.fst (Prod.snd (Prod.snd (Prod.snd (goF (eachF (2 :
  Nat) (i + (1 : Int))) i a (y, x) x_1)))) ∧ Prod.fst (Prod.snd (Prod.snd (Prod.snd x))) = Prod.fst (Prod.snd (Prod.snd (Prod.snd (Prod.snd (goF (eachF (2 : Nat) (i + (1 : Int))) i a (y, x) x_1))))) ∧ Prod.snd (Prod.snd
  (Prod.snd (Prod.snd x))) = Prod.snd (Prod.snd (Prod.snd (Prod.snd (Prod.snd (goF (eachF (2 : Nat) (i + (1 : Int))) i a (y, x) x_1))))) ∧ false = false) ∧ x_1 ≤ Int.toNat (a + (1 : Int))) ∧ ∀ (x_2 : Nat), x_2 ≤ Int.toNat
  (a + (1 : Int)) → (IntKind.min IntKind.i64 ≤ (↑x_2 : Int) ∧ (↑x_2 : Int) ≤ IntKind.max IntKind.i64 ∧ (∀ (y_1 : List Int), List.Mem y_1 [Prod.fst (goF (eachF (2 : Nat) (i + (1 : Int))) i a (y, x) x_2)] → List.length y_1 =
  (4 : Nat) ∧ ∀ (y : Int), List.Mem y y_1 → IntKind.min IntKind.i64 ≤ y ∧ y ≤ IntKind.max IntKind.i64) ∧ ∀ (y_1 : List Int × List Int × Int × List Int × Int), List.Mem y_1 [Prod.snd (goF (eachF (2 : Nat) (i + (1 : Int))) i
  a (y, x) x_2)] → List.length (Prod.fst y_1) = (4 : Nat) ∧ (∀ (y : Int), List.Mem y (Prod.fst y_1) → IntKind.min IntKind.i64 ≤ y ∧ y ≤ IntKind.max IntKind.i64) ∧ List.length (Prod.fst (Prod.snd y_1)) = (4 : Nat) ∧ (∀ (y :
  Int), List.Mem y (Prod.fst (Prod.snd y_1)) → IntKind.min IntKind.i64 ≤ y ∧ y ≤ IntKind.max IntKind.i64) ∧ IntKind.min IntKind.i64 ≤ Prod.fst (Prod.snd (Prod.snd y_1)) ∧ Prod.fst (Prod.snd (Prod.snd y_1)) ≤ IntKind.max
  IntKind.i64 ∧ List.length (Prod.fst (Prod.snd (Prod.snd (Prod.snd y_1)))) = (4 : Nat) ∧ (∀ (y : Int), List.Mem y (Prod.fst (Prod.snd (Prod.snd (Prod.snd y_1)))) → IntKind.min IntKind.i64 ≤ y ∧ y ≤ IntKind.max IntKind.i64)
  ∧ IntKind.min IntKind.i64 ≤ Prod.snd (Prod.snd (Prod.snd (Prod.snd y_1))) ∧ Prod.snd (Prod.snd (Prod.snd (Prod.snd y_1))) ≤ IntKind.max IntKind.i64) → bif decide ((↑x_2 : Int) < IntKind.wrap IntKind.i64 (a + (1 : Int)))
  then (((0 : Int) ≤ i ∧ i < (↑(4 : Nat) : Int)) ∧ Int.toNat i < (4 : Nat)) ∧ (IntKind.wrap IntKind.i64 (i + (1 : Int)) = (3 : Int) - (2 : Int) ∧ ((0 : Int) ≤ IntKind.wrap IntKind.i64 (a - (↑x_2 : Int)) ∧ IntKind.wrap
  IntKind.i64 (a - (↑x_2 : Int)) ≤ (12 : Int)) ∧ List.length (List.set (Prod.fst (goF (eachF (2 : Nat) (i + (1 : Int))) i a (y, x) x_2)) (Int.toNat i) (↑x_2 : Int)) = (4 : Nat) ∧ smallV (List.set (Prod.fst (goF (eachF (2 :
  Nat) (i + (1 : Int))) i a (y, x) x_2)) (Int.toNat i) (↑x_2 : Int)) ∧ smallV (Prod.fst (Prod.snd (goF (eachF (2 : Nat) (i + (1 : Int))) i a (y, x) x_2))) ∧ smallV (Prod.fst (Prod.snd (Prod.snd (goF (eachF (2 : Nat) (i + (1
  : Int))) i a (y, x) x_2))))) ∧ bif decide ((0 : Int) < (↑x_2 : Int)) then (((0 : Int) ≤ i ∧ i < (↑(4 : Nat) : Int)) ∧ Int.toNat i < (4 : Nat)) ∧ (IntKind.wrap IntKind.i64 (i + (1 : Int)) = (3 : Int) - (2 : Int) ∧ ((0 :
  Int) ≤ IntKind.wrap IntKind.i64 (a - (↑x_2 : Int)) ∧ IntKind.wrap IntKind.i64 (a - (↑x_2 : Int)) ≤ (12 : Int)) ∧ List.length (List.set (Prod.fst (eachF (2 : Nat) (IntKind.wrap IntKind.i64 (i + (1 : Int))) (IntKind.wrap
  IntKind.i64 (a - (↑x_2 : Int))) (List.set (Prod.fst (goF (eachF (2 : Nat) (i + (1 : Int))) i a (y, x) x_2)) (Int.toNat i) (↑x_2 : Int), Prod.snd (goF (eachF (2 : Nat) (i + (1 : Int))) i a (y, x) x_2)))) (Int.toNat i)
  (IntKind.wrap IntKind.i64 ((0 : Int) - (↑x_2 : Int)))) = (4 : Nat) ∧ smallV (List.set (Prod.fst (eachF (2 : Nat) (IntKind.wrap IntKind.i64 (i + (1 : Int))) (IntKind.wrap IntKind.i64 (a - (↑x_2 : Int))) (List.set (Prod.fst
  (goF (eachF (2 : Nat) (i + (1 : Int))) i a (y, x) x_2)) (Int.toNat i) (↑x_2 : Int), Prod.snd (goF (eachF (2 : Nat) (i + (1 : Int))) i a (y, x) x_2)))) (Int.toNat i) (IntKind.wrap IntKind.i64 ((0 : Int) - (↑x_2 : Int)))) ∧
  smallV (Prod.fst (Prod.snd (eachF (2 : Nat) (IntKind.wrap IntKind.i64 (i + (1 : Int))) (IntKind.wrap IntKind.i64 (a - (↑x_2 : Int))) (List.set (Prod.fst (goF (eachF (2 : Nat) (i + (1 : Int))) i a (y, x) x_2)) (Int.toNat
  i) (↑x_2 : Int), Prod.snd (goF (eachF (2 : Nat) (i + (1 : Int))) i a (y, x) x_2))))) ∧ smallV (Prod.fst (Prod.snd (Prod.snd (eachF (2 : Nat) (IntKind.wrap IntKind.i64 (i + (1 : Int))) (IntKind.wrap IntKind.i64 (a - (↑x_2
  : Int))) (List.set (Prod.fst (goF (eachF (2 : Nat) (i + (1 : Int))) i a (y, x) x_2)) (Int.toNat i) (↑x_2 : Int), Prod.snd (goF (eachF (2 : Nat) (i + (1 : Int))) i a (y, x) x_2))))))) ∧ ∃ (y_1 : Nat), (i = i ∧ a = a ∧ (0 :
  Nat) = (0 : Nat) ∧ (0 : Nat) = (0 : Nat) ∧ (0 : Nat) = (0 : Nat) ∧ IntKind.wrap IntKind.i64 (a + (1 : Int)) = IntKind.wrap IntKind.i64 (a + (1 : Int)) ∧ IntKind.wrap IntKind.i64 ((↑x_2 : Int) + (1 : Int)) = (↑y_1 : Int) ∧
  Prod.fst (eachF (2 : Nat) (IntKind.wrap IntKind.i64 (i + (1 : Int))) (IntKind.wrap IntKind.i64 (a - (↑x_2 : Int))) (List.set (Prod.fst (eachF (2 : Nat) (IntKind.wrap IntKind.i64 (i + (1 : Int))) (IntKind.wrap IntKind.i64
  (a - (↑x_2 : Int))) (List.set (Prod.fst (goF (eachF (2 : Nat) (i + (1 : Int))) i a (y, x) x_2)) (Int.toNat i) (↑x_2 : Int), Prod.snd (goF (eachF (2 : Nat) (i + (1 : Int))) i a (y, x) x_2)))) (Int.toNat i) (IntKind.wrap
  IntKind.i64 ((0 : Int) - (↑x_2 : Int))), Prod.snd (eachF (2 : Nat) (IntKind.wrap IntKind.i64 (i + (1 : Int))) (IntKind.wrap IntKind.i64 (a - (↑x_2 : Int))) (List.set (Prod.fst (goF (eachF (2 : Nat) (i + (1 : Int))) i a
  (y, x) x_2)) (Int.toNat i) (↑x_2 : Int), Prod.snd (goF (eachF (2 : Nat) (i + (1 : Int))) i a (y, x) x_2))))) = Prod.fst (goF (eachF (2 : Nat) (i + (1 : Int))) i a (y, x) y_1) ∧ false = false ∧ (0 : Nat) = (0 : Nat) ∧
  false = false ∧ (0 : Nat) = (0 : Nat) ∧ (0 : Nat) = (0 : Nat) ∧ (0 : Nat) = (0 : Nat) ∧ false = false ∧ Prod.fst (Prod.snd (eachF (2 : Nat) (IntKind.wrap IntKind.i64 (i + (1 : Int))) (IntKind.wrap IntKind.i64 (a - (↑x_2 :
  Int))) (List.set (Prod.fst (eachF (2 : Nat) (IntKind.wrap IntKind.i64 (i + (1 : Int))) (IntKind.wrap IntKind.i64 (a - (↑x_2 : Int))) (List.set (Prod.fst (goF (eachF (2 : Nat) (i + (1 : Int))) i a (y, x) x_2)) (Int.toNat
  i) (↑x_2 : Int), Prod.snd (goF (eachF (2 : Nat) (i + (1 : Int))) i a (y, x) x_2)))) (Int.toNat i) (IntKind.wrap IntKind.i64 ((0 : Int) - (↑x_2 : Int))), Prod.snd (eachF (2 : Nat) (IntKind.wrap IntKind.i64 (i + (1 : Int)))
  (IntKind.wrap IntKind.i64 (a - (↑x_2 : Int))) (List.set (Prod.fst (goF (eachF (2 : Nat) (i + (1 : Int))) i a (y, x) x_2)) (Int.toNat i) (↑x_2 : Int), Prod.snd (goF (eachF (2 : Nat) (i + (1 : Int))) i a (y, x) x_2)))))) =
  Prod.fst (Prod.snd (goF (eachF (2 : Nat) (i + (1 : Int))) i a (y, x) y_1)) ∧ Prod.fst (Prod.snd (Prod.snd (eachF (2 : Nat) (IntKind.wrap IntKind.i64 (i + (1 : Int))) (IntKind.wrap IntKind.i64 (a - (↑x_2 : Int))) (List.set
  (Prod.fst (eachF (2 : Nat) (IntKind.wrap IntKind.i64 (i + (1 : Int))) (IntKind.wrap IntKind.i64 (a - (↑x_2 : Int))) (List.set (Prod.fst (goF (eachF (2 : Nat) (i + (1 : Int))) i a (y, x) x_2)) (Int.toNat i) (↑x_2 : Int),
  Prod.snd (goF (eachF (2 : Nat) (i + (1 : Int))) i a (y, x) x_2)))) (Int.toNat i) (IntKind.wrap IntKind.i64 ((0 : Int) - (↑x_2 : Int))), Prod.snd (eachF (2 : Nat) (IntKind.wrap IntKind.i64 (i + (1 : Int))) (IntKind.wrap
  IntKind.i64 (a - (↑x_2 : Int))) (List.set (Prod.fst (goF (eachF (2 : Nat) (i + (1 : Int))) i a (y, x) x_2)) (Int.toNat i) (↑x_2 : Int), Prod.snd (goF (eachF (2 : Nat) (i + (1 : Int))) i a (y, x) x_2))))))) = Prod.fst
  (Prod.snd (Prod.snd (goF (eachF (2 : Nat) (i + (1 : Int))) i a (y, x) y_1))) ∧ Prod.fst (Prod.snd (Prod.snd (Prod.snd (eachF (2 : Nat) (IntKind.wrap IntKind.i64 (i + (1 : Int))) (IntKind.wrap IntKind.i64 (a - (↑x_2 :
  Int))) (List.set (Prod.fst (eachF (2 : Nat) (IntKind.wrap IntKind.i64 (i + (1 : Int))) (IntKind.wrap IntKind.i64 (a - (↑x_2 : Int))) (List.set (Prod.fst (goF (eachF (2 : Nat) (i + (1 : Int))) i a (y, x) x_2)) (Int.toNat
  i) (↑x_2 : Int), Prod.snd (goF (eachF (2 : Nat) (i + (1 : Int))) i a (y, x) x_2)))) (Int.toNat i) (IntKind.wrap IntKind.i64 ((0 : Int) - (↑x_2 : Int))), Prod.snd (eachF (2 : Nat) (IntKind.wrap IntKind.i64 (i + (1 : Int)))
  (IntKind.wrap IntKind.i64 (a - (↑x_2 : Int))) (List.set (Prod.fst (goF (eachF (2 : Nat) (i + (1 : Int))) i a (y, x) x_2)) (Int.toNat i) (↑x_2 : Int), Prod.snd (goF (eachF (2 : Nat) (i + (1 : Int))) i a (y, x) x_2))))))))
  = Prod.fst (Prod.snd (Prod.snd (Prod.snd (goF (eachF (2 : Nat) (i + (1 : Int))) i a (y, x) y_1)))) ∧ Prod.fst (Prod.snd (Prod.snd (Prod.snd (Prod.snd (eachF (2 : Nat) (IntKind.wrap IntKind.i64 (i + (1 : Int)))
  (IntKind.wrap IntKind.i64 (a - (↑x_2 : Int))) (List.set (Prod.fst (eachF (2 : Nat) (IntKind.wrap IntKind.i64 (i + (1 : Int))) (IntKind.wrap IntKind.i64 (a - (↑x_2 : Int))) (List.set (Prod.fst (goF (eachF (2 : Nat) (i + (1
  : Int))) i a (y, x) x_2)) (Int.toNat i) (↑x_2 : Int), Prod.snd (goF (eachF (2 : Nat) (i + (1 : Int))) i a (y, x) x_2)))) (Int.toNat i) (IntKind.wrap IntKind.i64 ((0 : Int) - (↑x_2 : Int))), Prod.snd (eachF (2 : Nat)
  (IntKind.wrap IntKind.i64 (i + (1 : Int))) (IntKind.wrap IntKind.i64 (a - (↑x_2 : Int))) (List.set (Prod.fst (goF (eachF (2 : Nat) (i + (1 : Int))) i a (y, x) x_2)) (Int.toNat i) (↑x_2 : Int), Prod.snd (goF (eachF (2 :
  Nat) (i + (1 : Int))) i a (y, x) x_2))))))))) = Prod.fst (Prod.snd (Prod.snd (Prod.snd (Prod.snd (goF (eachF (2 : Nat) (i + (1 : Int))) i a (y, x) y_1))))) ∧ Prod.snd (Prod.snd (Prod.snd (Prod.snd (Prod.snd (eachF (2 :
  Nat) (IntKind.wrap IntKind.i64 (i + (1 : Int))) (IntKind.wrap IntKind.i64 (a - (↑x_2 : Int))) (List.set (Prod.fst (eachF (2 : Nat) (IntKind.wrap IntKind.i64 (i + (1 : Int))) (IntKind.wrap IntKind.i64 (a - (↑x_2 : Int)))
  (List.set (Prod.fst (goF (eachF (2 : Nat) (i + (1 : Int))) i a (y, x) x_2)) (Int.toNat i) (↑x_2 : Int), Prod.snd (goF (eachF (2 : Nat) (i + (1 : Int))) i a (y, x) x_2)))) (Int.toNat i) (IntKind.wrap IntKind.i64 ((0 : Int)
  - (↑x_2 : Int))), Prod.snd (eachF (2 : Nat) (IntKind.wrap IntKind.i64 (i + (1 : Int))) (IntKind.wrap IntKind.i64 (a - (↑x_2 : Int))) (List.set (Prod.fst (goF (eachF (2 : Nat) (i + (1 : Int))) i a (y, x) x_2)) (Int.toNat
  i) (↑x_2 : Int), Prod.snd (goF (eachF (2 : Nat) (i + (1 : Int))) i a (y, x) x_2))))))))) = Prod.snd (Prod.snd (Prod.snd (Prod.snd (Prod.snd (goF (eachF (2 : Nat) (i + (1 : Int))) i a (y, x) y_1))))) ∧ false = false) ∧ y_1
  ≤ Int.toNat (a + (1 : Int)) ∧ Int.toNat (a + (1 : Int)) - y_1 < Int.toNat (a + (1 : Int)) - x_2 else ∃ (y_1 : Nat), (i = i ∧ a = a ∧ (0 : Nat) = (0 : Nat) ∧ (0 : Nat) = (0 : Nat) ∧ (0 : Nat) = (0 : Nat) ∧ IntKind.wrap
  IntKind.i64 (a + (1 : Int)) = IntKind.wrap IntKind.i64 (a + (1 : Int)) ∧ IntKind.wrap IntKind.i64 ((↑x_2 : Int) + (1 : Int)) = (↑y_1 : Int) ∧ Prod.fst (eachF (2 : Nat) (IntKind.wrap IntKind.i64 (i + (1 : Int)))
  (IntKind.wrap IntKind.i64 (a - (↑x_2 : Int))) (List.set (Prod.fst (goF (eachF (2 : Nat) (i + (1 : Int))) i a (y, x) x_2)) (Int.toNat i) (↑x_2 : Int), Prod.snd (goF (eachF (2 : Nat) (i + (1 : Int))) i a (y, x) x_2))) =
  Prod.fst (goF (eachF (2 : Nat) (i + (1 : Int))) i a (y, x) y_1) ∧ false = false ∧ (0 : Nat) = (0 : Nat) ∧ false = false ∧ (0 : Nat) = (0 : Nat) ∧ (0 : Nat) = (0 : Nat) ∧ (0 : Nat) = (0 : Nat) ∧ false = false ∧ Prod.fst
  (Prod.snd (eachF (2 : Nat) (IntKind.wrap IntKind.i64 (i + (1 : Int))) (IntKind.wrap IntKind.i64 (a - (↑x_2 : Int))) (List.set (Prod.fst (goF (eachF (2 : Nat) (i + (1 : Int))) i a (y, x) x_2)) (Int.toNat i) (↑x_2 : Int),
  Prod.snd (goF (eachF (2 : Nat) (i + (1 : Int))) i a (y, x) x_2)))) = Prod.fst (Prod.snd (goF (eachF (2 : Nat) (i + (1 : Int))) i a (y, x) y_1)) ∧ Prod.fst (Prod.snd (Prod.snd (eachF (2 : Nat) (IntKind.wrap IntKind.i64 (i
  + (1 : Int))) (IntKind.wrap IntKind.i64 (a - (↑x_2 : Int))) (List.set (Prod.fst (goF (eachF (2 : Nat) (i + (1 : Int))) i a (y, x) x_2)) (Int.toNat i) (↑x_2 : Int), Prod.snd (goF (eachF (2 : Nat) (i + (1 : Int))) i a (y,
  x) x_2))))) = Prod.fst (Prod.snd (Prod.snd (goF (eachF (2 : Nat) (i + (1 : Int))) i a (y, x) y_1))) ∧ Prod.fst (Prod.snd (Prod.snd (Prod.snd (eachF (2 : Nat) (IntKind.wrap IntKind.i64 (i + (1 : Int))) (IntKind.wrap
  IntKind.i64 (a - (↑x_2 : Int))) (List.set (Prod.fst (goF (eachF (2 : Nat) (i + (1 : Int))) i a (y, x) x_2)) (Int.toNat i) (↑x_2 : Int), Prod.snd (goF (eachF (2 : Nat) (i + (1 : Int))) i a (y, x) x_2)))))) = Prod.fst
  (Prod.snd (Prod.snd (Prod.snd (goF (eachF (2 : Nat) (i + (1 : Int))) i a (y, x) y_1)))) ∧ Prod.fst (Prod.snd (Prod.snd (Prod.snd (Prod.snd (eachF (2 : Nat) (IntKind.wrap IntKind.i64 (i + (1 : Int))) (IntKind.wrap
  IntKind.i64 (a - (↑x_2 : Int))) (List.set (Prod.fst (goF (eachF (2 : Nat) (i + (1 : Int))) i a (y, x) x_2)) (Int.toNat i) (↑x_2 : Int), Prod.snd (goF (eachF (2 : Nat) (i + (1 : Int))) i a (y, x) x_2))))))) = Prod.fst
  (Prod.snd (Prod.snd (Prod.snd (Prod.snd (goF (eachF (2 : Nat) (i + (1 : Int))) i a (y, x) y_1))))) ∧ Prod.snd (Prod.snd (Prod.snd (Prod.snd (Prod.snd (eachF (2 : Nat) (IntKind.wrap IntKind.i64 (i + (1 : Int)))
  (IntKind.wrap IntKind.i64 (a - (↑x_2 : Int))) (List.set (Prod.fst (goF (eachF (2 : Nat) (i + (1 : Int))) i a (y, x) x_2)) (Int.toNat i) (↑x_2 : Int), Prod.snd (goF (eachF (2 : Nat) (i + (1 : Int))) i a (y, x) x_2))))))) =
  Prod.snd (Prod.snd (Prod.snd (Prod.snd (Prod.snd (goF (eachF (2 : Nat) (i + (1 : Int))) i a (y, x) y_1))))) ∧ false = false) ∧ y_1 ≤ Int.toNat (a + (1 : Int)) ∧ Int.toNat (a + (1 : Int)) - y_1 < Int.toNat (a + (1 : Int))
  - x_2 else Prod.fst (goF (eachF (2 : Nat) (i + (1 : Int))) i a (y, x) x_2) = Prod.fst (eachF (3 : Nat) i a (y, x)) ∧ false = false ∧ (0 : Nat) = (0 : Nat) ∧ false = false ∧ (0 : Nat) = (0 : Nat) ∧ (0 : Nat) = (0 : Nat) ∧
  (0 : Nat) = (0 : Nat) ∧ false = false ∧ Prod.fst (Prod.snd (goF (eachF (2 : Nat) (i + (1 : Int))) i a (y, x) x_2)) = Prod.fst (Prod.snd (eachF (3 : Nat) i a (y, x))) ∧ Prod.fst (Prod.snd (Prod.snd (goF (eachF (2 : Nat) (i
  + (1 : Int))) i a (y, x) x_2))) = Prod.fst (Prod.snd (Prod.snd (eachF (3 : Nat) i a (y, x)))) ∧ Prod.fst (Prod.snd (Prod.snd (Prod.snd (goF (eachF (2 : Nat) (i + (1 : Int))) i a (y, x) x_2)))) = Prod.fst (Prod.snd
  (Prod.snd (Prod.snd (eachF (3 : Nat) i a (y, x))))) ∧ Prod.fst (Prod.snd (Prod.snd (Prod.snd (Prod.snd (goF (eachF (2 : Nat) (i + (1 : Int))) i a (y, x) x_2))))) = Prod.fst (Prod.snd (Prod.snd (Prod.snd (Prod.snd (eachF
  (3 : Nat) i a (y, x)))))) ∧ Prod.snd (Prod.snd (Prod.snd (Prod.snd (Prod.snd (goF (eachF (2 : Nat) (i + (1 : Int))) i a (y, x) x_2))))) = Prod.snd (Prod.snd (Prod.snd (Prod.snd (Prod.snd (eachF (3 : Nat) i a (y, x)))))) ∧
  false = false
theorem vcg84 (i a : Int) (y : List Int) (x : List Int × List Int × Int × List Int × Int) : Pg84 i a y x = vcFun Cg84 (anng84 i a y x) Go.Proofs.Tryd.f84 [⟨.int .i64, i⟩, ⟨.int .i64, a⟩, ⟨.ref .ptr, .ptr 0 (.arr 4 (.int .i64)) [0]⟩, ⟨.ref .ptr, .ptr 1 (.ref .func) [0]⟩, ⟨.ref .ptr, .ptr 2 (.ref .func) [0]⟩] [⟨false, true, .arr 4 (.int .i64), [y]⟩, ⟨false, true, .ref .func, [.func (.func 51) [.ptr 3 (.cons (.arr 4 (.int .i64)) (.cons (.arr 4 (.int .i64)) (.cons (.int .i64) (.cons (.arr 4 (.int .i64)) (.last (.int .i64)))))) [0]] []]⟩, ⟨false, true, .ref .func, [.func (.func 84) [] [.ptr 0 (.arr 4 (.int .i64)) [0], .ptr 1 (.ref .func) [0], .ptr 2 (.ref .func) [0]]]⟩, ⟨false, true, (.cons (.arr 4 (.int .i64)) (.cons (.arr 4 (.int .i64)) (.cons (.int .i64) (.cons (.arr 4 (.int .i64)) (.last (.int .i64)))))), [x]⟩] (outg84 i a y x) := by kernel_rfl

noncomputable def Cd50 : Ctx := ⟨Go.Proofs.Tryd.prog, D, Gg84, (fun _ _ => none), fun _ => []⟩
def annd50 (_a : Int) (_x : List Int × List Int × Int × List Int × Int) : Nat → St → Option Ann := fun _ _ => none
def outd50 (a : Int) (x : List Int × List Int × Int × List Int × Int) : COut := ⟨[(0 ≤ a ∧ a ≤ 12) ∧ smallV x.1 ∧ smallV x.2.1], .tup [], [(0, some ⟨false, true, (.cons (.arr 4 (.int .i64)) (.cons (.arr 4 (.int .i64)) (.cons (.int .i64) (.cons (.arr 4 (.int .i64)) (.last (.int .i64)))))), [(eachF 3 0 a (List.replicate 4 0, x)).2]⟩)], []⟩
def spd50 : Spec := fun args ins => match args, ins with
  | [⟨.int .i64, a⟩, ⟨.ref .func, .func (.func 51) [.ptr 0 (.cons (.arr 4 (.int .i64)) (.cons (.arr 4 (.int .i64)) (.cons (.int .i64) (.cons (.arr 4 (.int .i64)) (.last (.int .i64)))))) [0]] []⟩], [⟨false, true, (.cons (.arr 4 (.int .i64)) (.cons (.arr 4 (.int .i64)) (.cons (.int .i64) (.cons (.arr 4 (.int .i64)) (.last (.int .i64)))))), [x]⟩] => some (outd50 a x)
  | _, _ => none
def Gd50 := addG Gg84 50 spd50
def Pd50 (a : Int) (x : List Int × List Int × Int × List Int × Int) : Prop :=
  ((0 : Int) = (3 : Int) - (3 : Int) ∧ ((0 : Int) ≤ a ∧ a ≤ (12 : Int)) ∧ (4 : Nat) = (4 : Nat) ∧ smallV (List.replicate (4 : Nat) (0 : Int)) ∧ smallV (Prod.fst x) ∧ smallV (Prod.fst (Prod.snd x))) ∧ Prod.fst (Prod.snd
  (eachF (3 : Nat) (0 : Int) a (List.replicate (4 : Nat) (0 : Int), x))) = Prod.fst (Prod.snd (eachF (3 : Nat) (0 : Int) a (List.replicate (4 : Nat) (0 : Int), x))) ∧ Prod.fst (Prod.snd (Prod.snd (eachF (3 : Nat) (0 : Int)
  a (List.replicate (4 : Nat) (0 : Int), x)))) = Prod.fst (Prod.snd (Prod.snd (eachF (3 : Nat) (0 : Int) a (List.replicate (4 : Nat) (0 : Int), x)))) ∧ Prod.fst (Prod.snd (Prod.snd (Prod.snd (eachF (3 : Nat) (0 : Int) a
  (List.replicate (4 : Nat) (0 : Int), x))))) = Prod.fst (Prod.snd (Prod.snd (Prod.snd (eachF (3 : Nat) (0 : Int) a (List.replicate (4 : Nat) (0 : Int), x))))) ∧ Prod.fst (Prod.snd (Prod.snd (Prod.snd (Prod.snd (eachF (3 :
  Nat) (0 : Int) a (List.replicate (4 : Nat) (0 : Int), x)))))) = Prod.fst (Prod.snd (Prod.snd (Prod.snd (Prod.snd (eachF (3 : Nat) (0 : Int) a (List.replicate (4 : Nat) (0 : Int), x)))))) ∧ Prod.snd (Prod.snd (Prod.snd
  (Prod.snd (Prod.snd (eachF (3 : Nat) (0 : Int) a (List.replicate (4 : Nat) (0 : Int), x)))))) = Prod.snd (Prod.snd (Prod.snd (Prod.snd (Prod.snd (eachF (3 : Nat) (0 : Int) a (List.replicate (4 : Nat) (0 : Int), x)))))) ∧
  false = false
theorem vcd50 (a : Int) (x : List Int × List Int × Int × List Int × Int) : Pd50 a x = vcFun Cd50 (annd50 a x) Go.Proofs.Tryd.f50 [⟨.int .i64, a⟩, ⟨.ref .func, .func (.func 51) [.ptr 0 (.cons (.arr 4 (.int .i64)) (.cons (.arr 4 (.int .i64)) (.cons (.int .i64) (.cons (.arr 4 (.int .i64)) (.last (.int .i64)))))) [0]] []⟩] [⟨false, true, (.cons (.arr 4 (.int .i64)) (.cons (.arr 4 (.int .i64)) (.cons (.int .i64) (.cons (.arr 4 (.int .i64)) (.last (.int .i64)))))), [x]⟩] (outd50 a x) := by kernel_rfl

end Go.SL.A

/- All vectors of four with so many pulses are looked at. -/
namespace Go.SL.A
open Go Go.SL Go.SL.S
set_option maxRecDepth 100000

structure OKS (st : ES) : Prop where
  l : st.1.length = 4
  y : smallV st.1
  a : smallV st.2.1
  c : smallV st.2.2.1

theorem look_keep (x : S.SR) (z : List Int) : (lookF x z).1 = x.1 ∧ (lookF x z).2.1 = x.2.1 := by
  unfold lookF; split <;> exact ⟨rfl, rfl⟩
theorem OKS.set {st : ES} (h : OKS st) (i : Int) {v : Int} (hv : -12 ≤ v ∧ v ≤ 12) : OKS (List.set st.1 i.toNat v, st.2) :=
  ⟨by rw [List.length_set]; exact h.l, fun k hk => by
    rw [List.getD_eq_getElem?_getD, List.getElem?_set]
    split
    · split
      · rw [Option.getD_some]; omega
      · rw [Option.getD_none]; omega
    · rw [← List.getD_eq_getElem?_getD]; exact h.y k hk, h.a, h.c⟩
theorem OKS.look {st : ES} (h : OKS st) (z : List Int) : OKS (st.1, lookF st.2 z) :=
  ⟨h.l, h.y, by rw [(look_keep st.2 z).1]; exact h.a, by rw [(look_keep st.2 z).2]; exact h.c⟩
theorem leaf_ok {i a : Int} (ha : 0 ≤ a ∧ a ≤ 12) {st : ES} (h : OKS st) : OKS (leafF i a st) := by
  have h1 := h.set i (v := a) (by omega)
  have h2 := h1.look (List.set st.1 i.toNat a)
  unfold leafF
  split
  · exact (h2.set i (v := -a) (by omega)).look _
  · exact h2
theorem go_ok {f : Int → ES → ES} (hf : ∀ r st, 0 ≤ r ∧ r ≤ 12 → OKS st → OKS (f r st)) {i a : Int} (ha : 0 ≤ a ∧ a ≤ 12) {st : ES} (h : OKS st) : ∀ j : Nat, (j : Int) ≤ a + 1 → OKS (goF f i a st j)
  | 0, _ => h
  | j + 1, hj => by
    have ih := go_ok hf (i := i) ha h j (by omega)
    rw [goF]
    have h1 : OKS (posF f i a j (goF f i a st j)) := hf _ _ (by omega) (ih.set i (by omega))
    unfold negF
    split
    · exact hf _ _ (by omega) (h1.set i (by omega))
    · exact h1
theorem each_ok : ∀ (n : Nat) (i a : Int) (st : ES), (0 ≤ a ∧ a ≤ 12) → OKS st → OKS (eachF n i a st)
  | 0, _, _, _, ha, h => leaf_ok ha h
  | n + 1, i, a, st, ha, h => go_ok (fun r s hr hs => each_ok n (i + 1) r s hr hs) ha h _ (by omega)
theorem go_pos (f : Int → ES → ES) (i a : Int) (st : ES) (j : Nat) (h : 0 < (j : Int)) : goF f i a st (j + 1) = f (a - (j : Int)) (List.set (f (a - (j : Int)) (List.set (goF f i a st j).1 i.toNat (j : Int), (goF f i a st j).2)).1 i.toNat (-(j : Int)), (f (a - (j : Int)) (List.set (goF f i a st j).1 i.toNat (j : Int), (goF f i a st j).2)).2) := by
  rw [goF, negF, if_pos h]; rfl
theorem go_zero (f : Int → ES → ES) (i a : Int) (st : ES) (j : Nat) (h : ¬ 0 < (j : Int)) : goF f i a st (j + 1) = f (a - (j : Int)) (List.set (goF f i a st j).1 i.toNat (j : Int), (goF f i a st j).2) := by
  rw [goF, negF, if_neg h]; rfl

theorem pured84 (i a : Int) (y : List Int) (x : List Int × List Int × Int × List Int × Int) (hp : i = 3 - (0 : Int) ∧ (0 ≤ a ∧ a ≤ 12) ∧ y.length = 4 ∧ smallV y ∧ smallV x.1 ∧ smallV x.2.1) : Pd84 i a y x := by
  obtain ⟨hi, ha, hl, hy, hx, hc⟩ := hp
  have hi : i = 3 := by omega
  subst hi
  unfold Pd84
  have ok : OKS (y, x) := ⟨hl, hy, hx, hc⟩
  have ok1 := ok.set 3 (v := a) (by omega)
  have ok2 := ok1.look (List.set y (3 : Int).toNat a)
  have bd : (0 ≤ (3 : Int) ∧ (3 : Int) < ((4 : Nat) : Int)) ∧ (3 : Int).toNat < 4 := by decide
  have ew : IntKind.i64.wrap (0 - a) = -a := by rw [w64 (by omega) (by omega)]; omega
  rw [decide_eq_true (show (3 : Int) = 3 from rfl), cond_true, ew]
  by_cases h : 0 < a
  · have hE : eachF 0 3 a (y, x) = (List.set (List.set y (3 : Int).toNat a) (3 : Int).toNat (-a), lookF (lookF x (List.set y (3 : Int).toNat a)) (List.set (List.set y (3 : Int).toNat a) (3 : Int).toNat (-a))) := by
      show leafF 3 a (y, x) = _
      unfold leafF; rw [if_pos h]
    have ok3 := ok2.set 3 (v := -a) (by omega)
    rw [decide_eq_true h, cond_true, hE]
    refine ⟨bd, ⟨hx, hc, ok1.y⟩, bd, ⟨ok2.a, ok2.c, ok3.y⟩, ?_⟩
    and_intros <;> rfl
  · have hE : eachF 0 3 a (y, x) = (List.set y (3 : Int).toNat a, lookF x (List.set y (3 : Int).toNat a)) := by
      show leafF 3 a (y, x) = _
      unfold leafF; rw [if_neg h]
    rw [decide_eq_false h, cond_false, hE]
    refine ⟨bd, ⟨hx, hc, ok1.y⟩, ?_⟩
    and_intros <;> rfl

theorem puree84 (i a : Int) (y : List Int) (x : List Int × List Int × Int × List Int × Int) (hp : i = 3 - (1 : Int) ∧ (0 ≤ a ∧ a ≤ 12) ∧ y.length = 4 ∧ smallV y ∧ smallV x.1 ∧ smallV x.2.1) : Pe84 i a y x := by
  obtain ⟨hi, ha, hl, hy, hx, hc⟩ := hp
  unfold Pe84
  have ok : OKS (y, x) := ⟨hl, hy, hx, hc⟩
  have bd : (0 ≤ i ∧ i < ((4 : Nat) : Int)) ∧ i.toNat < 4 := by omega
  have e1 : IntKind.i64.wrap (i + 1) = i + 1 := w64 (by omega) (by omega)
  have e2 : IntKind.i64.wrap (a + 1) = a + 1 := w64 (by omega) (by omega)
  have hE : eachF 1 i a (y, x) = goF (eachF 0 (i + 1)) i a (y, x) (a + 1).toNat := rfl
  have hf : ∀ r st, 0 ≤ r ∧ r ≤ 12 → OKS st → OKS (eachF 0 (i + 1) r st) := fun r st hr hs => each_ok 0 (i + 1) r st hr hs
  rw [decide_eq_false (show ¬ i = 3 by omega), cond_false, hE, e1, e2]
  generalize eachF 0 (i + 1) = f at *
  refine ⟨0, ⟨by and_intros <;> rfl, by omega⟩, fun j hj hw => ?_⟩
  clear hw
  by_cases h : (j : Int) < a + 1
  · have okj := go_ok hf (i := i) ha ok j (by omega)
    have ew : IntKind.i64.wrap (a - (j : Int)) = a - (j : Int) := w64 (by omega) (by omega)
    have en : IntKind.i64.wrap (0 - (j : Int)) = -(j : Int) := by rw [w64 (by omega) (by omega)]; omega
    have gz := go_zero f i a (y, x) j
    have gp := go_pos f i a (y, x) j
    rw [decide_eq_true h, cond_true, ew, en]
    clear ew en
    generalize goF f i a (y, x) j = st at *
    have ok1 := okj.set i (v := (j : Int)) (by omega)
    have ok2 := hf (a - (j : Int)) _ (by omega) ok1
    refine ⟨bd, ⟨by omega, ⟨by omega, by omega⟩, ok1.l, ok1.y, ok1.a, ok1.c⟩, ?_⟩
    by_cases h0 : 0 < (j : Int)
    · have ok3 := ok2.set i (v := -(j : Int)) (by omega)
      rw [decide_eq_true h0, cond_true]
      refine ⟨bd, ⟨by omega, ⟨by omega, by omega⟩, ok3.l, ok3.y, ok3.a, ok3.c⟩, j + 1, ?_, by omega, by omega⟩
      rw [gp h0]
      and_intros <;> first | rfl | exact step_i (by omega)
    · rw [decide_eq_false h0, cond_false]
      refine ⟨j + 1, ?_, by omega, by omega⟩
      rw [gz h0]
      and_intros <;> first | rfl | exact step_i (by omega)
  · have : j = (a + 1).toNat := by omega
    rw [decide_eq_false h, cond_false, this]
    and_intros <;> rfl

theorem puref84 (i a : Int) (y : List Int) (x : List Int × List Int × Int × List Int × Int) (hp : i = 3 - (2 : Int) ∧ (0 ≤ a ∧ a ≤ 12) ∧ y.length = 4 ∧ smallV y ∧ smallV x.1 ∧ smallV x.2.1) : Pf84 i a y x := by
  obtain ⟨hi, ha, hl, hy, hx, hc⟩ := hp
  unfold Pf84
  have ok : OKS (y, x) := ⟨hl, hy, hx, hc⟩
  have bd : (0 ≤ i ∧ i < ((4 : Nat) : Int)) ∧ i.toNat < 4 := by omega
  have e1 : IntKind.i64.wrap (i + 1) = i + 1 := w64 (by omega) (by omega)
  have e2 : IntKind.i64.wrap (a + 1) = a + 1 := w64 (by omega) (by omega)
  have hE : eachF 2 i a (y, x) = goF (eachF 1 (i + 1)) i a (y, x) (a + 1).toNat := rfl
  have hf : ∀ r st, 0 ≤ r ∧ r ≤ 12 → OKS st → OKS (eachF 1 (i + 1) r st) := fun r st hr hs => each_ok 1 (i + 1) r st hr hs
  rw [decide_eq_false (show ¬ i = 3 by omega), cond_false, hE, e1, e2]
  generalize eachF 1 (i + 1) = f at *
  refine ⟨0, ⟨by and_intros <;> rfl, by omega⟩, fun j hj hw => ?_⟩
  clear hw
  by_cases h : (j : Int) < a + 1
  · have okj := go_ok hf (i := i) ha ok j (by omega)
    have ew : IntKind.i64.wrap (a - (j : Int)) = a - (j : Int) := w64 (by omega) (by omega)
    have en : IntKind.i64.wrap (0 - (j : Int)) = -(j : Int) := by rw [w64 (by omega) (by omega)]; omega
    have gz := go_zero f i a (y, x) j
    have gp := go_pos f i a (y, x) j
    rw [decide_eq_true h, cond_true, ew, en]
    clear ew en
    generalize goF f i a (y, x) j = st at *
    have ok1 := okj.set i (v := (j : Int)) (by omega)
    have ok2 := hf (a - (j : Int)) _ (by omega) ok1
    refine ⟨bd, ⟨by omega, ⟨by omega, by omega⟩, ok1.l, ok1.y, ok1.a, ok1.c⟩, ?_⟩
    by_cases h0 : 0 < (j : Int)
    · have ok3 := ok2.set i (v := -(j : Int)) (by omega)
      rw [decide_eq_true h0, cond_true]
      refine ⟨bd, ⟨by omega, ⟨by omega, by omega⟩, ok3.l, ok3.y, ok3.a, ok3.c⟩, j + 1, ?_, by omega, by omega⟩
      rw [gp h0]
      and_intros <;> first | rfl | exact step_i (by omega)
    · rw [decide_eq_false h0, cond_false]
      refine ⟨j + 1, ?_, by omega, by omega⟩
      rw [gz h0]
      and_intros <;> first | rfl | exact step_i (by omega)
  · have : j = (a + 1).toNat := by omega
    rw [decide_eq_false h, cond_false, this]
    and_intros <;> rfl

theorem pureg84 (i a : Int) (y : List Int) (x : List Int × List Int × Int × List Int × Int) (hp : i = 3 - (3 : Int) ∧ (0 ≤ a ∧ a ≤ 12) ∧ y.length = 4 ∧ smallV y ∧ smallV x.1 ∧ smallV x.2.1) : Pg84 i a y x := by
  obtain ⟨hi, ha, hl, hy, hx, hc⟩ := hp
  unfold Pg84
  have ok : OKS (y, x) := ⟨hl, hy, hx, hc⟩
  have bd : (0 ≤ i ∧ i < ((4 : Nat) : Int)) ∧ i.toNat < 4 := by omega
  have e1 : IntKind.i64.wrap (i + 1) = i + 1 := w64 (by omega) (by omega)
  have e2 : IntKind.i64.wrap (a + 1) = a + 1 := w64 (by omega) (by omega)
  have hE : eachF 3 i a (y, x) = goF (eachF 2 (i + 1)) i a (y, x) (a + 1).toNat := rfl
  have hf : ∀ r st, 0 ≤ r ∧ r ≤ 12 → OKS st → OKS (eachF 2 (i + 1) r st) := fun r st hr hs => each_ok 2 (i + 1) r st hr hs
  rw [decide_eq_false (show ¬ i = 3 by omega), cond_false, hE, e1, e2]
  generalize eachF 2 (i + 1) = f at *
  refine ⟨0, ⟨by and_intros <;> rfl, by omega⟩, fun j hj hw => ?_⟩
  clear hw
  by_cases h : (j : Int) < a + 1
  · have okj := go_ok hf (i := i) ha ok j (by omega)
    have ew : IntKind.i64.wrap (a - (j : Int)) = a - (j : Int) := w64 (by omega) (by omega)
    have en : IntKind.i64.wrap (0 - (j : Int)) = -(j : Int) := by rw [w64 (by omega) (by omega)]; omega
    have gz := go_zero f i a (y, x) j
    have gp := go_pos f i a (y, x) j
    rw [decide_eq_true h, cond_true, ew, en]
    clear ew en
    generalize goF f i a (y, x) j = st at *
    have ok1 := okj.set i (v := (j : Int)) (by omega)
    have ok2 := hf (a - (j : Int)) _ (by omega) ok1
    refine ⟨bd, ⟨by omega, ⟨by omega, by omega⟩, ok1.l, ok1.y, ok1.a, ok1.c⟩, ?_⟩
    by_cases h0 : 0 < (j : Int)
    · have ok3 := ok2.set i (v := -(j : Int)) (by omega)
      rw [decide_eq_true h0, cond_true]
      refine ⟨bd, ⟨by omega, ⟨by omega, by omega⟩, ok3.l, ok3.y, ok3.a, ok3.c⟩, j + 1, ?_, by omega, by omega⟩
      rw [gp h0]
      and_intros <;> first | rfl | exact step_i (by omega)
    · rw [decide_eq_false h0, cond_false]
      refine ⟨j + 1, ?_, by omega, by omega⟩
      rw [gz h0]
      and_intros <;> first | rfl | exact step_i (by omega)
  · have : j = (a + 1).toNat := by omega
    rw [decide_eq_false h, cond_false, this]
    and_intros <;> rfl

theorem pured50 (a : Int) (x : List Int × List Int × Int × List Int × Int) (hp : (0 ≤ a ∧ a ≤ 12) ∧ smallV x.1 ∧ smallV x.2.1) : Pd50 a x := by
  unfold Pd50
  obtain ⟨ha, h1, h2⟩ := hp
  have hr : smallV (List.replicate 4 0) := by unfold smallV; decide
  exact ⟨⟨rfl, ha, rfl, hr, h1, h2⟩, rfl, rfl, rfl, rfl, rfl, rfl⟩
end Go.SL.A

/- Functions do what they are held to do. -/
namespace Go.SL.A
open Go Go.SL Go.SL.S
theorem sndd84 : Sound Go.Proofs.Tryd.prog Gd84 := sndc84.add ⟨_, Go.Proofs.Tryd.func84, by kernel_rfl, by kernel_rfl⟩ (by
  intro args ins out h hp
  unfold spd84 at h
  split at h
  · rename_i i a y x
    cases h
    exact vcFun_ok (C := Cd84) good sndc84 Meth.none mix Go.Proofs.Tryd.func84 (annd84 i a y x) (fun hw => by rw [← vcd84 i a y x]; exact pured84 i a y x hp)
  · cases h)

theorem snde84 : Sound Go.Proofs.Tryd.prog Ge84 := sndd84.add ⟨_, Go.Proofs.Tryd.func84, by kernel_rfl, by kernel_rfl⟩ (by
  intro args ins out h hp
  unfold spe84 at h
  split at h
  · rename_i i a y x
    cases h
    exact vcFun_ok (C := Ce84) good sndd84 Meth.none mix Go.Proofs.Tryd.func84 (anne84 i a y x) (fun hw => by rw [← vce84 i a y x]; exact puree84 i a y x hp)
  · cases h)

theorem sndf84 : Sound Go.Proofs.Tryd.prog Gf84 := snde84.add ⟨_, Go.Proofs.Tryd.func84, by kernel_rfl, by kernel_rfl⟩ (by
  intro args ins out h hp
  unfold spf84 at h
  split at h
  · rename_i i a y x
    cases h
    exact vcFun_ok (C := Cf84) good snde84 Meth.none mix Go.Proofs.Tryd.func84 (annf84 i a y x) (fun hw => by rw [← vcf84 i a y x]; exact puref84 i a y x hp)
  · cases h)

theorem sndg84 : Sound Go.Proofs.Tryd.prog Gg84 := sndf84.add ⟨_, Go.Proofs.Tryd.func84, by kernel_rfl, by kernel_rfl⟩ (by
  intro args ins out h hp
  unfold spg84 at h
  split at h
  · rename_i i a y x
    cases h
    exact vcFun_ok (C := Cg84) good sndf84 Meth.none mix Go.Proofs.Tryd.func84 (anng84 i a y x) (fun hw => by rw [← vcg84 i a y x]; exact pureg84 i a y x hp)
  · cases h)

theorem sndd50 : Sound Go.Proofs.Tryd.prog Gd50 := sndg84.add ⟨_, Go.Proofs.Tryd.func50, by kernel_rfl, by kernel_rfl⟩ (by
  intro args ins out h hp
  unfold spd50 at h
  split at h
  · rename_i a x
    cases h
    exact vcFun_ok (C := Cd50) good sndg84 Meth.none mix Go.Proofs.Tryd.func50 (annd50 a x) (fun hw => by rw [← vcd50 a x]; exact pured50 a x hp)
  · cases h)

end Go.SL.A

/- A frame's bit in its band, and what the document says of it: plain functions. -/
namespace Go.SL.S
open Go Go.SL
def negC (c : List Int) : List Int := c.map fun x => -x
def chipB (bit : Bool) (c : List Int) : List Int := if bit then negC c else c
def srch (y c : List Int) (m n : Int) : SR := (eachF 3 0 n (List.replicate 4 0, (y, c, m, List.replicate 4 0, -1))).2
def putR (y c : List Int) (m n : Int) (s : SHM) (b : Nat) : SHM × Bool :=
  if (decide (2 ≤ dotZ y c 4) || (decide (m = 0) || decide (12 < n))) = true then (s, decide (2 ≤ dotZ y c 4))
  else if (srch y c m n).2.2.2.2 < 0 then (s, false) else ((s.1, List.set s.2 b (srch y c m n).2.2.2.1), true)
def putM (k : List Int) (f : Int) (bit : Bool) (s : SHM) : SHM × Bool :=
  if heldB s.2 then putR (rowZ s.2 (bandK k f)) (chipB bit (chipsK k f)) (movF s.1 (bandK k f)) (pulsesF (rowZ s.2 (bandK k f))) s (bandK k f).toNat else (s, false)
def sumAb (y : List Int) : Nat → Int
  | 0 => 0
  | n + 1 => sumAb y n + absZ (y.getD n 0)
abbrev RS : Type := Bool × Int × List Int
def refOne (y c : List Int) (g room : Int) (x : RS) (z : List Int) : RS :=
  if (decide (2 ≤ dotZ z c 4) && (decide (farM y z 4 * g ≤ room) && (!x.1 || decide (farM y z 4 < x.2.1)))) = true then (true, farM y z 4, z) else x
def refTo (y c : List Int) (g room : Int) (L : List (List Int)) : Nat → RS
  | 0 => (false, 0, y)
  | i + 1 => refOne y c g room (refTo y c g room L i) (L.getD i (List.replicate 4 0))
def refR (y c : List Int) (g room : Int) (s : SHM) (b : Nat) : SHM × Bool :=
  if 2 ≤ dotZ y c 4 then (s, true)
  else ((s.1, List.set s.2 b (refTo y c g room (allF (sumAb y 4).toNat) (allF (sumAb y 4).toNat).length).2.2), (refTo y c g room (allF (sumAb y 4).toNat) (allF (sumAb y 4).toNat).length).1)
def refM (k : List Int) (f : Int) (bit : Bool) (s : SHM) : SHM × Bool :=
  refR (rowZ s.2 (bandK k f)) (chipB bit (chipsK k f)) (gainF (s.1.getD (bandK k f).toNat 0)) (budTo s.1 (bandK k f) 8) s (bandK k f).toNat
end Go.SL.S

/- Functions and what they are held to do: bound to their code. -/
namespace Go.SL.A
open Go Go.SL Go.SL.S
set_option maxRecDepth 100000
noncomputable def Cd57 : Ctx := ⟨Go.Proofs.Tryd.prog, D, Gd50, (fun _ _ => none), fun _ => []⟩
def annd57 (k : Int) : Nat → St → Option Ann := fun id S => match id with | 0 => some ⟨Nat, [0, 3], [], fun x => [(5, .v (.int .i64) ((x : Int) + 1)), (4, .v (.ref .slice) (.slice 2 (.int .i64) [] 0 (2 * x + 1)))], fun x => [(2, some ⟨false, false, .int .i64, numsF x⟩)], fun x => x ≤ k.toNat, fun x => k.toNat - x⟩ | 2 => some ⟨Nat, [0, 4], [2], fun a => [(6, .v (.int .i64) (a : Int)), (3, .v (.ref .slice) (.slice 3 (.arr 4 (.int .i64)) [] 0 (stA k.toNat a).length))], fun a => [(3, some ⟨false, false, .arr 4 (.int .i64), stA k.toNat a⟩)], fun a => a ≤ 2 * k.toNat + 1, fun a => 2 * k.toNat + 1 - a⟩ | 4 => some ⟨Nat, [0, 4, 6], [2], fun b => [(7, .v (.int .i64) (b : Int)), (3, .v (.ref .slice) (.slice 4 (.arr 4 (.int .i64)) [] 0 (stB k.toNat (S.i 6).toNat b).length))], fun b => [(4, some ⟨false, false, .arr 4 (.int .i64), stB k.toNat (S.i 6).toNat b⟩)], fun b => b ≤ 2 * k.toNat + 1, fun b => 2 * k.toNat + 1 - b⟩ | _ => some ⟨Nat, [0, 4, 6, 7], [2], fun c => [(8, .v (.int .i64) (c : Int)), (3, .v (.ref .slice) (.slice 5 (.arr 4 (.int .i64)) [] 0 (stC k.toNat (S.i 6).toNat (S.i 7).toNat c).length))], fun c => [(5, some ⟨false, false, .arr 4 (.int .i64), stC k.toNat (S.i 6).toNat (S.i 7).toNat c⟩)], fun c => c ≤ 2 * k.toNat + 1, fun c => 2 * k.toNat + 1 - c⟩
def outd57 (k : Int) : COut := ⟨[0 ≤ k ∧ k ≤ 12], .v (.ref .slice) (.slice 0 (.arr 4 (.int .i64)) [] 0 (allF k.toNat).length), [], [⟨false, false, .arr 4 (.int .i64), allF k.toNat⟩]⟩
def spd57 : Spec := fun args ins => match args, ins with
  | [⟨.int .i64, k⟩], [] => some (outd57 k)
  | _, _ => none
def Gd57 := addG Gd50 57 spd57
def Pd57 (k : Int) : Prop :=
  ((1 : Nat) ≤ (1 : Nat) ∧ (0 : Nat) < (1 : Nat) ∧ (8 : Nat) ≤ (70368744177664 : Nat)) ∧ ∃ (x : Nat), ((k = k ∧ (0 : Nat) = (0 : Nat) ∧ (1 : Nat) = (2 : Nat) * x + (1 : Nat) ∧ (1 : Int) = (↑x : Int) + (1 : Int) ∧ seg ((0 :
  Int) :: List.replicate (nat_lit 0) (0 : Int)) (0 : Nat) (1 : Nat) = numsF x ∧ false = false) ∧ x ≤ Int.toNat k) ∧ ∀ (x : Nat), x ≤ Int.toNat k → (IntKind.min IntKind.i64 ≤ (↑x : Int) + (1 : Int) ∧ (↑x : Int) + (1 : Int) ≤
  IntKind.max IntKind.i64 ∧ ∀ (y : Int), List.Mem y (numsF x) → IntKind.min IntKind.i64 ≤ y ∧ y ≤ IntKind.max IntKind.i64) → bif decide ((↑x : Int) + (1 : Int) ≤ k) then ((1 : Nat) ≤ (1 : Nat) ∧ (0 : Nat) + ((2 : Nat) * x +
  (1 : Nat)) = List.length (numsF x) ∧ ((2 : Nat) * x + (1 : Nat) + List.length (seg (((↑x : Int) + (1 : Int)) :: List.replicate (nat_lit 0) (0 : Int)) (0 : Nat) (1 : Nat))) * (8 : Nat) ≤ (70368744177664 : Nat)) ∧ ((1 :
  Nat) ≤ (1 : Nat) ∧ (0 : Nat) + ((2 : Nat) * x + (1 : Nat) + List.length (seg (((↑x : Int) + (1 : Int)) :: List.replicate (nat_lit 0) (0 : Int)) (0 : Nat) (1 : Nat))) = List.length (List.append (List.drop (0 : Nat) (numsF
  x)) (seg (((↑x : Int) + (1 : Int)) :: List.replicate (nat_lit 0) (0 : Int)) (0 : Nat) (1 : Nat))) ∧ ((2 : Nat) * x + (1 : Nat) + List.length (seg (((↑x : Int) + (1 : Int)) :: List.replicate (nat_lit 0) (0 : Int)) (0 :
  Nat) (1 : Nat)) + List.length (seg (IntKind.wrap IntKind.i64 ((0 : Int) - ((↑x : Int) + (1 : Int))) :: List.replicate (nat_lit 0) (0 : Int)) (0 : Nat) (1 : Nat))) * (8 : Nat) ≤ (70368744177664 : Nat)) ∧ ∃ (y : Nat), (k =
  k ∧ (0 : Nat) = (0 : Nat) ∧ (2 : Nat) * x + (1 : Nat) + List.length (seg (((↑x : Int) + (1 : Int)) :: List.replicate (nat_lit 0) (0 : Int)) (0 : Nat) (1 : Nat)) + List.length (seg (IntKind.wrap IntKind.i64 ((0 : Int) -
  ((↑x : Int) + (1 : Int))) :: List.replicate (nat_lit 0) (0 : Int)) (0 : Nat) (1 : Nat)) = (2 : Nat) * y + (1 : Nat) ∧ IntKind.wrap IntKind.i64 ((↑x : Int) + (1 : Int) + (1 : Int)) = (↑y : Int) + (1 : Int) ∧ List.append
  (List.drop (0 : Nat) (List.append (List.drop (0 : Nat) (numsF x)) (seg (((↑x : Int) + (1 : Int)) :: List.replicate (nat_lit 0) (0 : Int)) (0 : Nat) (1 : Nat)))) (seg (IntKind.wrap IntKind.i64 ((0 : Int) - ((↑x : Int) + (1
  : Int))) :: List.replicate (nat_lit 0) (0 : Int)) (0 : Nat) (1 : Nat)) = numsF y ∧ false = false) ∧ y ≤ Int.toNat k ∧ Int.toNat k - y < Int.toNat k - x else ∃ (x_1 : Nat), ((k = k ∧ List.length (stA (Int.toNat k) x_1) =
  (0 : Nat) ∧ (0 : Nat) = (0 : Nat) ∧ (2 : Nat) * x + (1 : Nat) = (2 : Nat) * x + (1 : Nat) ∧ (0 : Int) = (↑x_1 : Int) ∧ numsF x = numsF x ∧ false = false ∧ stA (Int.toNat k) x_1 = []) ∧ x_1 ≤ (2 : Nat) * Int.toNat k + (1 :
  Nat)) ∧ ∀ (x_2 : Nat), x_2 ≤ (2 : Nat) * Int.toNat k + (1 : Nat) → (IntKind.min IntKind.i64 ≤ (↑x_2 : Int) ∧ (↑x_2 : Int) ≤ IntKind.max IntKind.i64 ∧ ∀ (y : List Int), List.Mem y (stA (Int.toNat k) x_2) → List.length y =
  (4 : Nat) ∧ ∀ (y_1 : Int), List.Mem y_1 y → IntKind.min IntKind.i64 ≤ y_1 ∧ y_1 ≤ IntKind.max IntKind.i64) → bif decide ((↑x_2 : Int) < (↑((2 : Nat) * x + (1 : Nat)) : Int)) then ∃ (x_3 : Nat), ((k = k ∧ (0 : Nat) = (0 :
  Nat) ∧ List.length (stA (Int.toNat k) x_2) = List.length (stB (Int.toNat k) (Int.toNat (↑x_2 : Int)) x_3) ∧ (0 : Nat) = (0 : Nat) ∧ (2 : Nat) * x + (1 : Nat) = (2 : Nat) * x + (1 : Nat) ∧ (↑x_2 : Int) = (↑x_2 : Int) ∧ (0
  : Int) = (↑x_3 : Int) ∧ numsF x = numsF x ∧ false = false ∧ stA (Int.toNat k) x_2 = stB (Int.toNat k) (Int.toNat (↑x_2 : Int)) x_3 ∧ false = false) ∧ x_3 ≤ (2 : Nat) * Int.toNat k + (1 : Nat)) ∧ ∀ (x_4 : Nat), x_4 ≤ (2 :
  Nat) * Int.toNat k + (1 : Nat) → (IntKind.min IntKind.i64 ≤ (↑x_4 : Int) ∧ (↑x_4 : Int) ≤ IntKind.max IntKind.i64 ∧ ∀ (y : List Int), List.Mem y (stB (Int.toNat k) (Int.toNat (↑x_2 : Int)) x_4) → List.length y = (4 : Nat)
  ∧ ∀ (y_1 : Int), List.Mem y_1 y → IntKind.min IntKind.i64 ≤ y_1 ∧ y_1 ≤ IntKind.max IntKind.i64) → bif decide ((↑x_4 : Int) < (↑((2 : Nat) * x + (1 : Nat)) : Int)) then ∃ (x_5 : Nat), ((k = k ∧ (0 : Nat) = (0 : Nat) ∧
  List.length (stB (Int.toNat k) (Int.toNat (↑x_2 : Int)) x_4) = List.length (stC (Int.toNat k) (Int.toNat (↑x_2 : Int)) (Int.toNat (↑x_4 : Int)) x_5) ∧ (0 : Nat) = (0 : Nat) ∧ (2 : Nat) * x + (1 : Nat) = (2 : Nat) * x + (1
  : Nat) ∧ (↑x_2 : Int) = (↑x_2 : Int) ∧ (↑x_4 : Int) = (↑x_4 : Int) ∧ (0 : Int) = (↑x_5 : Int) ∧ numsF x = numsF x ∧ false = false ∧ stB (Int.toNat k) (Int.toNat (↑x_2 : Int)) x_4 = stC (Int.toNat k) (Int.toNat (↑x_2 :
  Int)) (Int.toNat (↑x_4 : Int)) x_5 ∧ false = false) ∧ x_5 ≤ (2 : Nat) * Int.toNat k + (1 : Nat)) ∧ ∀ (x_6 : Nat), x_6 ≤ (2 : Nat) * Int.toNat k + (1 : Nat) → (IntKind.min IntKind.i64 ≤ (↑x_6 : Int) ∧ (↑x_6 : Int) ≤
  IntKind.max IntKind.i64 ∧ ∀ (y : List Int), List.Mem y (stC (Int.toNat k) (Int.toNat (↑x_2 : Int)) (Int.toNat (↑x_4 : Int)) x_6) → List.length y = (4 : Nat) ∧ ∀ (y_1 : Int), List.Mem y_1 y → IntKind.min IntKind.i64 ≤ y_1
  ∧ y_1 ≤ IntKind.max IntKind.i64) → bif decide ((↑x_6 : Int) < (↑((2 : Nat) * x + (1 : Nat)) : Int)) then (((0 : Int) ≤ (↑x_2 : Int) ∧ (↑x_2 : Int) < (↑((2 : Nat) * x + (1 : Nat)) : Int)) ∧ (0 : Nat) + Int.toNat (↑x_2 :
  Int) < List.length (numsF x) ∧ ((0 : Int) ≤ (↑x_4 : Int) ∧ (↑x_4 : Int) < (↑((2 : Nat) * x + (1 : Nat)) : Int)) ∧ (0 : Nat) + Int.toNat (↑x_4 : Int) < List.length (numsF x) ∧ ((0 : Int) ≤ (↑x_6 : Int) ∧ (↑x_6 : Int) <
  (↑((2 : Nat) * x + (1 : Nat)) : Int)) ∧ (0 : Nat) + Int.toNat (↑x_6 : Int) < List.length (numsF x)) ∧ bif decide (IntKind.wrap IntKind.i64 (IntKind.wrap IntKind.i64 (IntKind.wrap IntKind.i64 (k - szR (List.getD (numsF x)
  ((0 : Nat) + Int.toNat (↑x_2 : Int)) (0 : Int))) - szR (List.getD (numsF x) ((0 : Nat) + Int.toNat (↑x_4 : Int)) (0 : Int))) - szR (List.getD (numsF x) ((0 : Nat) + Int.toNat (↑x_6 : Int)) (0 : Int))) < (0 : Int)) then ∃
  (y : Nat), (k = k ∧ (0 : Nat) = (0 : Nat) ∧ List.length (stC (Int.toNat k) (Int.toNat (↑x_2 : Int)) (Int.toNat (↑x_4 : Int)) x_6) = List.length (stC (Int.toNat k) (Int.toNat (↑x_2 : Int)) (Int.toNat (↑x_4 : Int)) y) ∧ (0
  : Nat) = (0 : Nat) ∧ (2 : Nat) * x + (1 : Nat) = (2 : Nat) * x + (1 : Nat) ∧ (↑x_2 : Int) = (↑x_2 : Int) ∧ (↑x_4 : Int) = (↑x_4 : Int) ∧ IntKind.wrap IntKind.i64 ((↑x_6 : Int) + (1 : Int)) = (↑y : Int) ∧ numsF x = numsF x
  ∧ false = false ∧ stC (Int.toNat k) (Int.toNat (↑x_2 : Int)) (Int.toNat (↑x_4 : Int)) x_6 = stC (Int.toNat k) (Int.toNat (↑x_2 : Int)) (Int.toNat (↑x_4 : Int)) y ∧ false = false) ∧ y ≤ (2 : Nat) * Int.toNat k + (1 : Nat)
  ∧ (2 : Nat) * Int.toNat k + (1 : Nat) - y < (2 : Nat) * Int.toNat k + (1 : Nat) - x_6 else (((0 : Int) ≤ (↑x_2 : Int) ∧ (↑x_2 : Int) < (↑((2 : Nat) * x + (1 : Nat)) : Int)) ∧ (0 : Nat) + Int.toNat (↑x_2 : Int) <
  List.length (numsF x) ∧ ((0 : Int) ≤ (↑x_4 : Int) ∧ (↑x_4 : Int) < (↑((2 : Nat) * x + (1 : Nat)) : Int)) ∧ (0 : Nat) + Int.toNat (↑x_4 : Int) < List.length (numsF x) ∧ ((0 : Int) ≤ (↑x_6 : Int) ∧ (↑x_6 : Int) < (↑((2 :
  Nat) * x + (1 : Nat)) : Int)) ∧ (0 : Nat) + Int.toNat (↑x_6 : Int) < List.length (numsF x) ∧ (1 : Nat) ≤ (1 : Nat) ∧ (0 : Nat) + List.length (stC (Int.toNat k) (Int.toNat (↑x_2 : Int)) (Int.toNat (↑x_4 : Int)) x_6) =
  List.length (stC (Int.toNat k) (Int.toNat (↑x_2 : Int)) (Int.toNat (↑x_4 : Int)) x_6) ∧ (List.length (stC (Int.toNat k) (Int.toNat (↑x_2 : Int)) (Int.toNat (↑x_4 : Int)) x_6) + List.length (seg ((List.getD (numsF x) ((0 :
  Nat) + Int.toNat (↑x_2 : Int)) (0 : Int) :: List.set (List.set (List.set (List.replicate (nat_lit 3) (0 : Int)) (nat_lit 0) (List.getD (numsF x) ((0 : Nat) + Int.toNat (↑x_4 : Int)) (0 : Int))) (nat_lit 1) (List.getD
  (numsF x) ((0 : Nat) + Int.toNat (↑x_6 : Int)) (0 : Int))) (nat_lit 2) (IntKind.wrap IntKind.i64 (IntKind.wrap IntKind.i64 (IntKind.wrap IntKind.i64 (k - szR (List.getD (numsF x) ((0 : Nat) + Int.toNat (↑x_2 : Int)) (0 :
  Int))) - szR (List.getD (numsF x) ((0 : Nat) + Int.toNat (↑x_4 : Int)) (0 : Int))) - szR (List.getD (numsF x) ((0 : Nat) + Int.toNat (↑x_6 : Int)) (0 : Int))))) :: List.replicate (nat_lit 0) (List.replicate (4 : Nat) (0 :
  Int))) (0 : Nat) (1 : Nat))) * (32 : Nat) ≤ (70368744177664 : Nat)) ∧ bif decide ((0 : Int) < IntKind.wrap IntKind.i64 (IntKind.wrap IntKind.i64 (IntKind.wrap IntKind.i64 (k - szR (List.getD (numsF x) ((0 : Nat) +
  Int.toNat (↑x_2 : Int)) (0 : Int))) - szR (List.getD (numsF x) ((0 : Nat) + Int.toNat (↑x_4 : Int)) (0 : Int))) - szR (List.getD (numsF x) ((0 : Nat) + Int.toNat (↑x_6 : Int)) (0 : Int)))) then (((0 : Int) ≤ (↑x_2 : Int)
  ∧ (↑x_2 : Int) < (↑((2 : Nat) * x + (1 : Nat)) : Int)) ∧ (0 : Nat) + Int.toNat (↑x_2 : Int) < List.length (numsF x) ∧ ((0 : Int) ≤ (↑x_4 : Int) ∧ (↑x_4 : Int) < (↑((2 : Nat) * x + (1 : Nat)) : Int)) ∧ (0 : Nat) +
  Int.toNat (↑x_4 : Int) < List.length (numsF x) ∧ ((0 : Int) ≤ (↑x_6 : Int) ∧ (↑x_6 : Int) < (↑((2 : Nat) * x + (1 : Nat)) : Int)) ∧ (0 : Nat) + Int.toNat (↑x_6 : Int) < List.length (numsF x) ∧ (1 : Nat) ≤ (1 : Nat) ∧ (0 :
  Nat) + (List.length (stC (Int.toNat k) (Int.toNat (↑x_2 : Int)) (Int.toNat (↑x_4 : Int)) x_6) + List.length (seg ((List.getD (numsF x) ((0 : Nat) + Int.toNat (↑x_2 : Int)) (0 : Int) :: List.set (List.set (List.set
  (List.replicate (nat_lit 3) (0 : Int)) (nat_lit 0) (List.getD (numsF x) ((0 : Nat) + Int.toNat (↑x_4 : Int)) (0 : Int))) (nat_lit 1) (List.getD (numsF x) ((0 : Nat) + Int.toNat (↑x_6 : Int)) (0 : Int))) (nat_lit 2)
  (IntKind.wrap IntKind.i64 (IntKind.wrap IntKind.i64 (IntKind.wrap IntKind.i64 (k - szR (List.getD (numsF x) ((0 : Nat) + Int.toNat (↑x_2 : Int)) (0 : Int))) - szR (List.getD (numsF x) ((0 : Nat) + Int.toNat (↑x_4 : Int))
  (0 : Int))) - szR (List.getD (numsF x) ((0 : Nat) + Int.toNat (↑x_6 : Int)) (0 : Int))))) :: List.replicate (nat_lit 0) (List.replicate (4 : Nat) (0 : Int))) (0 : Nat) (1 : Nat))) = List.length (List.append (List.drop (0
  : Nat) (stC (Int.toNat k) (Int.toNat (↑x_2 : Int)) (Int.toNat (↑x_4 : Int)) x_6)) (seg ((List.getD (numsF x) ((0 : Nat) + Int.toNat (↑x_2 : Int)) (0 : Int) :: List.set (List.set (List.set (List.replicate (nat_lit 3) (0 :
  Int)) (nat_lit 0) (List.getD (numsF x) ((0 : Nat) + Int.toNat (↑x_4 : Int)) (0 : Int))) (nat_lit 1) (List.getD (numsF x) ((0 : Nat) + Int.toNat (↑x_6 : Int)) (0 : Int))) (nat_lit 2) (IntKind.wrap IntKind.i64 (IntKind.wrap
  IntKind.i64 (IntKind.wrap IntKind.i64 (k - szR (List.getD (numsF x) ((0 : Nat) + Int.toNat (↑x_2 : Int)) (0 : Int))) - szR (List.getD (numsF x) ((0 : Nat) + Int.toNat (↑x_4 : Int)) (0 : Int))) - szR (List.getD (numsF x)
  ((0 : Nat) + Int.toNat (↑x_6 : Int)) (0 : Int))))) :: List.replicate (nat_lit 0) (List.replicate (4 : Nat) (0 : Int))) (0 : Nat) (1 : Nat))) ∧ (List.length (stC (Int.toNat k) (Int.toNat (↑x_2 : Int)) (Int.toNat (↑x_4 :
  Int)) x_6) + List.length (seg ((List.getD (numsF x) ((0 : Nat) + Int.toNat (↑x_2 : Int)) (0 : Int) :: List.set (List.set (List.set (List.replicate (nat_lit 3) (0 : Int)) (nat_lit 0) (List.getD (numsF x) ((0 : Nat) +
  Int.toNat (↑x_4 : Int)) (0 : Int))) (nat_lit 1) (List.getD (numsF x) ((0 : Nat) + Int.toNat (↑x_6 : Int)) (0 : Int))) (nat_lit 2) (IntKind.wrap IntKind.i64 (IntKind.wrap IntKind.i64 (IntKind.wrap IntKind.i64 (k - szR
  (List.getD (numsF x) ((0 : Nat) + Int.toNat (↑x_2 : Int)) (0 : Int))) - szR (List.getD (numsF x) ((0 : Nat) + Int.toNat (↑x_4 : Int)) (0 : Int))) - szR (List.getD (numsF x) ((0 : Nat) + Int.toNat (↑x_6 : Int)) (0 :
  Int))))) :: List.replicate (nat_lit 0) (List.replicate (4 : Nat) (0 : Int))) (0 : Nat) (1 : Nat)) + List.length (seg ((List.getD (numsF x) ((0 : Nat) + Int.toNat (↑x_2 : Int)) (0 : Int) :: List.set (List.set (List.set
  (List.replicate (nat_lit 3) (0 : Int)) (nat_lit 0) (List.getD (numsF x) ((0 : Nat) + Int.toNat (↑x_4 : Int)) (0 : Int))) (nat_lit 1) (List.getD (numsF x) ((0 : Nat) + Int.toNat (↑x_6 : Int)) (0 : Int))) (nat_lit 2)
  (IntKind.wrap IntKind.i64 ((0 : Int) - IntKind.wrap IntKind.i64 (IntKind.wrap IntKind.i64 (IntKind.wrap IntKind.i64 (k - szR (List.getD (numsF x) ((0 : Nat) + Int.toNat (↑x_2 : Int)) (0 : Int))) - szR (List.getD (numsF x)
  ((0 : Nat) + Int.toNat (↑x_4 : Int)) (0 : Int))) - szR (List.getD (numsF x) ((0 : Nat) + Int.toNat (↑x_6 : Int)) (0 : Int)))))) :: List.replicate (nat_lit 0) (List.replicate (4 : Nat) (0 : Int))) (0 : Nat) (1 : Nat))) *
  (32 : Nat) ≤ (70368744177664 : Nat)) ∧ ∃ (y : Nat), (k = k ∧ (0 : Nat) = (0 : Nat) ∧ List.length (stC (Int.toNat k) (Int.toNat (↑x_2 : Int)) (Int.toNat (↑x_4 : Int)) x_6) + List.length (seg ((List.getD (numsF x) ((0 :
  Nat) + Int.toNat (↑x_2 : Int)) (0 : Int) :: List.set (List.set (List.set (List.replicate (nat_lit 3) (0 : Int)) (nat_lit 0) (List.getD (numsF x) ((0 : Nat) + Int.toNat (↑x_4 : Int)) (0 : Int))) (nat_lit 1) (List.getD
  (numsF x) ((0 : Nat) + Int.toNat (↑x_6 : Int)) (0 : Int))) (nat_lit 2) (IntKind.wrap IntKind.i64 (IntKind.wrap IntKind.i64 (IntKind.wrap IntKind.i64 (k - szR (List.getD (numsF x) ((0 : Nat) + Int.toNat (↑x_2 : Int)) (0 :
  Int))) - szR (List.getD (numsF x) ((0 : Nat) + Int.toNat (↑x_4 : Int)) (0 : Int))) - szR (List.getD (numsF x) ((0 : Nat) + Int.toNat (↑x_6 : Int)) (0 : Int))))) :: List.replicate (nat_lit 0) (List.replicate (4 : Nat) (0 :
  Int))) (0 : Nat) (1 : Nat)) + List.length (seg ((List.getD (numsF x) ((0 : Nat) + Int.toNat (↑x_2 : Int)) (0 : Int) :: List.set (List.set (List.set (List.replicate (nat_lit 3) (0 : Int)) (nat_lit 0) (List.getD (numsF x)
  ((0 : Nat) + Int.toNat (↑x_4 : Int)) (0 : Int))) (nat_lit 1) (List.getD (numsF x) ((0 : Nat) + Int.toNat (↑x_6 : Int)) (0 : Int))) (nat_lit 2) (IntKind.wrap IntKind.i64 ((0 : Int) - IntKind.wrap IntKind.i64 (IntKind.wrap
  IntKind.i64 (IntKind.wrap IntKind.i64 (k - szR (List.getD (numsF x) ((0 : Nat) + Int.toNat (↑x_2 : Int)) (0 : Int))) - szR (List.getD (numsF x) ((0 : Nat) + Int.toNat (↑x_4 : Int)) (0 : Int))) - szR (List.getD (numsF x)
  ((0 : Nat) + Int.toNat (↑x_6 : Int)) (0 : Int)))))) :: List.replicate (nat_lit 0) (List.replicate (4 : Nat) (0 : Int))) (0 : Nat) (1 : Nat)) = List.length (stC (Int.toNat k) (Int.toNat (↑x_2 : Int)) (Int.toNat (↑x_4 :
  Int)) y) ∧ (0 : Nat) = (0 : Nat) ∧ (2 : Nat) * x + (1 : Nat) = (2 : Nat) * x + (1 : Nat) ∧ (↑x_2 : Int) = (↑x_2 : Int) ∧ (↑x_4 : Int) = (↑x_4 : Int) ∧ IntKind.wrap IntKind.i64 ((↑x_6 : Int) + (1 : Int)) = (↑y : Int) ∧
  numsF x = numsF x ∧ false = false ∧ List.append (List.drop (0 : Nat) (List.append (List.drop (0 : Nat) (stC (Int.toNat k) (Int.toNat (↑x_2 : Int)) (Int.toNat (↑x_4 : Int)) x_6)) (seg ((List.getD (numsF x) ((0 : Nat) +
  Int.toNat (↑x_2 : Int)) (0 : Int) :: List.set (List.set (List.set (List.replicate (nat_lit 3) (0 : Int)) (nat_lit 0) (List.getD (numsF x) ((0 : Nat) + Int.toNat (↑x_4 : Int)) (0 : Int))) (nat_lit 1) (List.getD (numsF x)
  ((0 : Nat) + Int.toNat (↑x_6 : Int)) (0 : Int))) (nat_lit 2) (IntKind.wrap IntKind.i64 (IntKind.wrap IntKind.i64 (IntKind.wrap IntKind.i64 (k - szR (List.getD (numsF x) ((0 : Nat) + Int.toNat (↑x_2 : Int)) (0 : Int))) -
  szR (List.getD (numsF x) ((0 : Nat) + Int.toNat (↑x_4 : Int)) (0 : Int))) - szR (List.getD (numsF x) ((0 : Nat) + Int.toNat (↑x_6 : Int)) (0 : Int))))) :: List.replicate (nat_lit 0) (List.replicate (4 : Nat) (0 : Int)))
  (0 : Nat) (1 : Nat)))) (seg ((List.getD (numsF x) ((0 : Nat) + Int.toNat (↑x_2 : Int)) (0 : Int) :: List.set (List.set (List.set (List.replicate (nat_lit 3) (0 : Int)) (nat_lit 0) (List.getD (numsF x) ((0 : Nat) +
  Int.toNat (↑x_4 : Int)) (0 : Int))) (nat_lit 1) (List.getD (numsF x) ((0 : Nat) + Int.toNat (↑x_6 : Int)) (0 : Int))) (nat_lit 2) (IntKind.wrap IntKind.i64 ((0 : Int) - IntKind.wrap IntKind.i64 (IntKind.wrap IntKind.i64
  (IntKind.wrap IntKind.i64 (k - szR (List.getD (numsF x) ((0 : Nat) + Int.toNat (↑x_2 : Int)) (0 : Int))) - szR (List.getD (numsF x) ((0 : Nat) + Int.toNat (↑x_4 : Int)) (0 : Int))) - szR (List.getD (numsF x) ((0 : Nat) +
  Int.toNat (↑x_6 : Int)) (0 : Int)))))) :: List.replicate (nat_lit 0) (List.replicate (4 : Nat) (0 : Int))) (0 : Nat) (1 : Nat)) = stC (Int.toNat k) (Int.toNat (↑x_2 : Int)) (Int.toNat (↑x_4 : Int)) y ∧ false = false) ∧ y
  ≤ (2 : Nat) * Int.toNat k + (1 : Nat) ∧ (2 : Nat) * Int.toNat k + (1 : Nat) - y < (2 : Nat) * Int.toNat k + (1 : Nat) - x_6 else ∃ (y : Nat), (k = k ∧ (0 : Nat) = (0 : Nat) ∧ List.length (stC (Int.toNat k) (Int.toNat
  (↑x_2 : Int)) (Int.toNat (↑x_4 : Int)) x_6) + List.length (seg ((List.getD (numsF x) ((0 : Nat) + Int.toNat (↑x_2 : Int)) (0 : Int) :: List.set (List.set (List.set (List.replicate (nat_lit 3) (0 : Int)) (nat_lit 0)
  (List.getD (numsF x) ((0 : Nat) + Int.toNat (↑x_4 : Int)) (0 : Int))) (nat_lit 1) (List.getD (numsF x) ((0 : Nat) + Int.toNat (↑x_6 : Int)) (0 : Int))) (nat_lit 2) (IntKind.wrap IntKind.i64 (IntKind.wrap IntKind.i64
  (IntKind.wrap IntKind.i64 (k - szR (List.getD (numsF x) ((0 : Nat) + Int.toNat (↑x_2 : Int)) (0 : Int))) - szR (List.getD (numsF x) ((0 : Nat) + Int.toNat (↑x_4 : Int)) (0 : Int))) - szR (List.getD (numsF x) ((0 : Nat) +
  Int.toNat (↑x_6 : Int)) (0 : Int))))) :: List.replicate (nat_lit 0) (List.replicate (4 : Nat) (0 : Int))) (0 : Nat) (1 : Nat)) = List.length (stC (Int.toNat k) (Int.toNat (↑x_2 : Int)) (Int.toNat (↑x_4 : Int)) y) ∧ (0 :
  Nat) = (0 : Nat) ∧ (2 : Nat) * x + (1 : Nat) = (2 : Nat) * x + (1 : Nat) ∧ (↑x_2 : Int) = (↑x_2 : Int) ∧ (↑x_4 : Int) = (↑x_4 : Int) ∧ IntKind.wrap IntKind.i64 ((↑x_6 : Int) + (1 : Int)) = (↑y : Int) ∧ numsF x = numsF x ∧
  false = false ∧ List.append (List.drop (0 : Nat) (stC (Int.toNat k) (Int.toNat (↑x_2 : Int)) (Int.toNat (↑x_4 : Int)) x_6)) (seg ((List.getD (numsF x) ((0 : Nat) + Int.toNat (↑x_2 : Int)) (0 : Int) :: List.set (List.set
  (List.set (List.replicate (nat_lit 3) (0 : Int)) (nat_lit 0) (List.getD (numsF x) ((0 : Nat) + Int.toNat (↑x_4 : Int)) (0 : Int))) (nat_lit 1) (List.getD (numsF x) ((0 : Nat) + Int.toNat (↑x_6 : Int)) (0 : Int))) (nat_lit
  2) (IntKind.wrap IntKind.i64 (IntKind.wrap IntKind.i64 (IntKind.wrap IntKind.i64 (k - szR (List.getD (numsF x) ((0 : Nat) + Int.toNat (↑x_2 : Int)) (0 : Int))) - szR (List.getD (numsF x) ((0 : Nat) + Int.toNat (↑x_4 :
  Int)) (0 : Int))) - szR (List.getD (numsF x) ((0 : Nat) + Int.toNat (↑x_6 : Int)) (0 : Int))))) :: List.replicate (nat_lit 0) (List.replicate (4 : Nat) (0 : Int))) (0 : Nat) (1 : Nat)) = stC (Int.toNat k) (Int.toNat (↑x_2
  : Int)) (Int.toNat (↑x_4 : Int)) y ∧ false = false) ∧ y ≤ (2 : Nat) * Int.toNat k + (1 : Nat) ∧ (2 : Nat) * Int.toNat k + (1 : Nat) - y < (2 : Nat) * Int.toNat k + (1 : Nat) - x_6 else ∃ (y : Nat), (k = k ∧ (0 : Nat) = (0
  : Nat) ∧ List.length (stC (Int.toNat k) (Int.toNat (↑x_2 : Int)) (Int.toNat (↑x_4 : Int)) x_6) = List.length (stB (Int.toNat k) (Int.toNat (↑x_2 : Int)) y) ∧ (0 : Nat) = (0 : Nat) ∧ (2 : Nat) * x + (1 : Nat) = (2 : Nat) *
  x + (1 : Nat) ∧ (↑x_2 : Int) = (↑x_2 : Int) ∧ IntKind.wrap IntKind.i64 ((↑x_4 : Int) + (1 : Int)) = (↑y : Int) ∧ numsF x = numsF x ∧ false = false ∧ stC (Int.toNat k) (Int.toNat (↑x_2 : Int)) (Int.toNat (↑x_4 : Int)) x_6
  = stB (Int.toNat k) (Int.toNat (↑x_2 : Int)) y ∧ false = false) ∧ y ≤ (2 : Nat) * Int.toNat k + (1 : Nat) ∧ (2 : Nat) * Int.toNat k + (1 : Nat) - y < (2 : Nat) * Int.toNat k + (1 : Nat) - x_4 else ∃ (y : Nat), (k = k ∧ (0
  : Nat) = (0 : Nat) ∧ List.length (stB (Int.toNat k) (Int.toNat (↑x_2 : Int)) x_4) = List.length (stA (Int.toNat k) y) ∧ (0 : Nat) = (0 : Nat) ∧ (2 : Nat) * x + (1 : Nat) = (2 : Nat) * x + (1 : Nat) ∧ IntKind.wrap
  IntKind.i64 ((↑x_2 : Int) + (1 : Int)) = (↑y : Int) ∧ numsF x = numsF x ∧ false = false ∧ stB (Int.toNat k) (Int.toNat (↑x_2 : Int)) x_4 = stA (Int.toNat k) y ∧ false = false) ∧ y ≤ (2 : Nat) * Int.toNat k + (1 : Nat) ∧
  (2 : Nat) * Int.toNat k + (1 : Nat) - y < (2 : Nat) * Int.toNat k + (1 : Nat) - x_2 else (0 : Nat) = (0 : Nat) ∧ List.length (stA (Int.toNat k) x_2) = List.length (allF (Int.toNat k)) ∧ stA (Int.toNat k) x_2 = allF
  (Int.toNat k) ∧ false = false
theorem vcd57 (k : Int) : Pd57 k = vcFun Cd57 (annd57 k) Go.Proofs.Tryd.f57 [⟨.int .i64, k⟩] [] (outd57 k) := by kernel_rfl

noncomputable def Cd19 : Ctx := ⟨Go.Proofs.Tryd.prog, D, Gd57, (fun _ _ => none), fun _ => []⟩
def annd19 (_y _c : List Int) : Nat → St → Option Ann := fun _ _ => none
def outd19 (y c : List Int) : COut := ⟨[smallV y ∧ smallV c], .v (.int .i64) (dotZ y c 4), [], []⟩
def spd19 : Spec := fun args ins => match args, ins with
  | [⟨.arr 4 (.int .i64), y⟩, ⟨.arr 4 (.int .i64), c⟩], [] => some (outd19 y c)
  | _, _ => none
def Gd19 := addG Gd57 19 spd19
def Pd19 (y c : List Int) : Prop :=
  (((0 : Int) ≤ (0 : Int) ∧ (0 : Int) < (↑(4 : Nat) : Int)) ∧ (0 : Nat) < (4 : Nat) ∧ ((0 : Int) ≤ (0 : Int) ∧ (0 : Int) < (↑(4 : Nat) : Int)) ∧ (0 : Nat) < (4 : Nat) ∧ ((0 : Int) ≤ (1 : Int) ∧ (1 : Int) < (↑(4 : Nat) :
  Int)) ∧ (1 : Nat) < (4 : Nat) ∧ ((0 : Int) ≤ (1 : Int) ∧ (1 : Int) < (↑(4 : Nat) : Int)) ∧ (1 : Nat) < (4 : Nat) ∧ ((0 : Int) ≤ (2 : Int) ∧ (2 : Int) < (↑(4 : Nat) : Int)) ∧ (2 : Nat) < (4 : Nat) ∧ ((0 : Int) ≤ (2 : Int)
  ∧ (2 : Int) < (↑(4 : Nat) : Int)) ∧ (2 : Nat) < (4 : Nat) ∧ ((0 : Int) ≤ (3 : Int) ∧ (3 : Int) < (↑(4 : Nat) : Int)) ∧ (3 : Nat) < (4 : Nat) ∧ ((0 : Int) ≤ (3 : Int) ∧ (3 : Int) < (↑(4 : Nat) : Int)) ∧ (3 : Nat) < (4 :
  Nat)) ∧ IntKind.wrap IntKind.i64 (IntKind.wrap IntKind.i64 (IntKind.wrap IntKind.i64 (IntKind.wrap IntKind.i64 (List.getD y (0 : Nat) (0 : Int) * List.getD c (0 : Nat) (0 : Int)) + IntKind.wrap IntKind.i64 (List.getD y (1
  : Nat) (0 : Int) * List.getD c (1 : Nat) (0 : Int))) + IntKind.wrap IntKind.i64 (List.getD y (2 : Nat) (0 : Int) * List.getD c (2 : Nat) (0 : Int))) + IntKind.wrap IntKind.i64 (List.getD y (3 : Nat) (0 : Int) * List.getD
  c (3 : Nat) (0 : Int))) = dotZ y c (4 : Nat)
theorem vcd19 (y c : List Int) : Pd19 y c = vcFun Cd19 (annd19 y c) Go.Proofs.Tryd.f19 [⟨.arr 4 (.int .i64), y⟩, ⟨.arr 4 (.int .i64), c⟩] [] (outd19 y c) := by kernel_rfl

noncomputable def Cd22 : Ctx := ⟨Go.Proofs.Tryd.prog, D, Gd19, (fun _ _ => none), fun _ => []⟩
def annd22 (y : List Int) : Nat → St → Option Ann := fun _ _ => some ⟨Nat, [1], [0], fun i => [(4, .v (.int .i64) (i : Int)), (3, .v (.int .i64) (sumSz (y.take i)))], fun _ => [], fun i => i ≤ 4 ∧ okRow (y.take i) = true, fun i => 4 - i⟩
def outd22 (y : List Int) : COut := ⟨[], .v (.int .i64) (pulsesF y), [], []⟩
def spd22 : Spec := fun args ins => match args, ins with
  | [⟨.arr 4 (.int .i64), y⟩], [] => some (outd22 y)
  | _, _ => none
def Gd22 := addG Gd19 22 spd22
def Pd22 (y : List Int) : Prop :=
  ∃ (x : Nat), (((0 : Nat) = (0 : Nat) ∧ (0 : Int) = sumSz (List.take x y) ∧ (0 : Int) = (↑x : Int) ∧ y = y ∧ false = false) ∧ x ≤ (4 : Nat) ∧ okRow (List.take x y) = true) ∧ ∀ (x : Nat), x ≤ (4 : Nat) ∧ okRow (List.take x
  y) = true → IntKind.min IntKind.i64 ≤ (↑x : Int) ∧ (↑x : Int) ≤ IntKind.max IntKind.i64 ∧ IntKind.min IntKind.i64 ≤ sumSz (List.take x y) ∧ sumSz (List.take x y) ≤ IntKind.max IntKind.i64 → bif decide ((↑x : Int) < (4 :
  Int)) then ∀ (b : Bool), decide (List.getD y (Int.toNat (↑x : Int)) (0 : Int) < (-12 : Int)) = b → (((0 : Int) ≤ (↑x : Int) ∧ (↑x : Int) < (↑(4 : Nat) : Int)) ∧ Int.toNat (↑x : Int) < (4 : Nat) ∧ ((!b) = true → (!b) =
  true ∧ (0 : Int) ≤ (↑x : Int) ∧ (↑x : Int) < (↑(4 : Nat) : Int)) ∧ ((!b) = true → (!b) = true ∧ Int.toNat (↑x : Int) < (4 : Nat)) ∧ ((!b) = true → (!b) = true) ∧ (b = false → (!b) = true)) ∧ bif bif b then true else
  decide ((12 : Int) < List.getD y (Int.toNat (↑x : Int)) (0 : Int)) then (13 : Int) = pulsesF y else (((0 : Int) ≤ (↑x : Int) ∧ (↑x : Int) < (↑(4 : Nat) : Int)) ∧ Int.toNat (↑x : Int) < (4 : Nat)) ∧ ∃ (y_1 : Nat), ((0 :
  Nat) = (0 : Nat) ∧ IntKind.wrap IntKind.i64 (sumSz (List.take x y) + szR (List.getD y (Int.toNat (↑x : Int)) (0 : Int))) = sumSz (List.take y_1 y) ∧ IntKind.wrap IntKind.i64 ((↑x : Int) + (1 : Int)) = (↑y_1 : Int) ∧ y = y
  ∧ false = false) ∧ (y_1 ≤ (4 : Nat) ∧ okRow (List.take y_1 y) = true) ∧ (4 : Nat) - y_1 < (4 : Nat) - x else min (sumSz (List.take x y)) (13 : Int) = pulsesF y
theorem vcd22 (y : List Int) : Pd22 y = vcFun Cd22 (annd22 y) Go.Proofs.Tryd.f22 [⟨.arr 4 (.int .i64), y⟩] [] (outd22 y) := by kernel_rfl

noncomputable def Cd58 : Ctx := ⟨Go.Proofs.Tryd.prog, D, Gd22, (fun _ _ => none), fun _ => []⟩
def annd58 (s : List Int) (b : Int) : Nat → St → Option Ann := fun id S => match id with | 0 => some ⟨Nat, [1, 2], [0], fun j => [(6, .v (.int .i64) (j : Int)), (5, .v (.int .i64) (budTo s b j))], fun _ => [], fun j => j ≤ 8, fun j => 8 - j⟩ | 2 => some ⟨Nat, [1, 2, 5, 6], [0], fun m => [(8, .v (.int .i64) (S.i 6 + (m : Int))), (7, .v (.int .i64) (S.i 7 / 2 ^ m))], fun _ => [], fun m => m ≤ (b - S.i 6).toNat, fun m => (b - S.i 6).toNat - m⟩ | _ => some ⟨Nat, [1, 2, 5, 6], [0], fun m => [(9, .v (.int .i64) (S.i 6 - (m : Int))), (7, .v (.int .i64) (S.i 7 / 2 ^ (2 * m)))], fun _ => [], fun m => m ≤ (S.i 6 - b).toNat, fun m => (S.i 6 - b).toNat - m⟩
def outd58 (s : List Int) (b : Int) : COut := ⟨[rightF s = true ∧ 0 ≤ b ∧ b < 8], .v (.int .i64) (budTo s b 8), [], []⟩
def spd58 : Spec := fun args ins => match args, ins with
  | [⟨.arr 8 (.int .i64), s⟩, ⟨.int .i64, b⟩], [] => some (outd58 s b)
  | _, _ => none
def Gd58 := addG Gd22 58 spd58
def Pd58 (s : List Int) (b : Int) : Prop :=
  ∃ (x : Nat), ((b = b ∧ (0 : Nat) = (0 : Nat) ∧ (0 : Int) = budTo s b x ∧ (0 : Int) = (↑x : Int) ∧ s = s ∧ false = false) ∧ x ≤ (8 : Nat)) ∧ ∀ (x : Nat), x ≤ (8 : Nat) → IntKind.min IntKind.i64 ≤ (↑x : Int) ∧ (↑x : Int) ≤
  IntKind.max IntKind.i64 ∧ IntKind.min IntKind.i64 ≤ budTo s b x ∧ budTo s b x ≤ IntKind.max IntKind.i64 → bif decide ((↑x : Int) < (8 : Int)) then (((0 : Int) ≤ (↑x : Int) ∧ (↑x : Int) < (↑(8 : Nat) : Int)) ∧ Int.toNat
  (↑x : Int) < (8 : Nat) ∧ (0 : Int) ≤ List.getD s (Int.toNat (↑x : Int)) (0 : Int) ∧ List.getD s (Int.toNat (↑x : Int)) (0 : Int) ≤ (15 : Int)) ∧ ∃ (x_1 : Nat), ((b = b ∧ (0 : Nat) = (0 : Nat) ∧ budTo s b x = budTo s b x ∧
  (↑x : Int) = (↑x : Int) ∧ IntKind.wrap IntKind.i64 ((4 : Int) * gainF (List.getD s (Int.toNat (↑x : Int)) (0 : Int))) = IntKind.wrap IntKind.i64 ((4 : Int) * gainF (List.getD s (Int.toNat (↑x : Int)) (0 : Int))) / (2 :
  Int) ^ x_1 ∧ (↑x : Int) = (↑x : Int) + (↑x_1 : Int) ∧ s = s ∧ false = false) ∧ x_1 ≤ Int.toNat (b - (↑x : Int))) ∧ ∀ (x_2 : Nat), x_2 ≤ Int.toNat (b - (↑x : Int)) → IntKind.min IntKind.i64 ≤ (↑x : Int) + (↑x_2 : Int) ∧
  (↑x : Int) + (↑x_2 : Int) ≤ IntKind.max IntKind.i64 ∧ IntKind.min IntKind.i64 ≤ IntKind.wrap IntKind.i64 ((4 : Int) * gainF (List.getD s (Int.toNat (↑x : Int)) (0 : Int))) / (2 : Int) ^ x_2 ∧ IntKind.wrap IntKind.i64 ((4
  : Int) * gainF (List.getD s (Int.toNat (↑x : Int)) (0 : Int))) / (2 : Int) ^ x_2 ≤ IntKind.max IntKind.i64 → bif decide ((↑x : Int) + (↑x_2 : Int) < b) then (2 : Int) ≠ (0 : Int) ∧ ∃ (y : Nat), (b = b ∧ (0 : Nat) = (0 :
  Nat) ∧ budTo s b x = budTo s b x ∧ (↑x : Int) = (↑x : Int) ∧ IntKind.wrap IntKind.i64 (Int.tdiv (IntKind.wrap IntKind.i64 ((4 : Int) * gainF (List.getD s (Int.toNat (↑x : Int)) (0 : Int))) / (2 : Int) ^ x_2) (2 : Int)) =
  IntKind.wrap IntKind.i64 ((4 : Int) * gainF (List.getD s (Int.toNat (↑x : Int)) (0 : Int))) / (2 : Int) ^ y ∧ IntKind.wrap IntKind.i64 ((↑x : Int) + (↑x_2 : Int) + (1 : Int)) = (↑x : Int) + (↑y : Int) ∧ s = s ∧ false =
  false) ∧ y ≤ Int.toNat (b - (↑x : Int)) ∧ Int.toNat (b - (↑x : Int)) - y < Int.toNat (b - (↑x : Int)) - x_2 else ∃ (x_3 : Nat), ((b = b ∧ (0 : Nat) = (0 : Nat) ∧ budTo s b x = budTo s b x ∧ (↑x : Int) = (↑x : Int) ∧
  IntKind.wrap IntKind.i64 ((4 : Int) * gainF (List.getD s (Int.toNat (↑x : Int)) (0 : Int))) / (2 : Int) ^ x_2 = IntKind.wrap IntKind.i64 ((4 : Int) * gainF (List.getD s (Int.toNat (↑x : Int)) (0 : Int))) / (2 : Int) ^ x_2
  / (2 : Int) ^ ((2 : Nat) * x_3) ∧ (↑x : Int) = (↑x : Int) - (↑x_3 : Int) ∧ s = s ∧ false = false) ∧ x_3 ≤ Int.toNat ((↑x : Int) - b)) ∧ ∀ (x_4 : Nat), x_4 ≤ Int.toNat ((↑x : Int) - b) → IntKind.min IntKind.i64 ≤ (↑x :
  Int) - (↑x_4 : Int) ∧ (↑x : Int) - (↑x_4 : Int) ≤ IntKind.max IntKind.i64 ∧ IntKind.min IntKind.i64 ≤ IntKind.wrap IntKind.i64 ((4 : Int) * gainF (List.getD s (Int.toNat (↑x : Int)) (0 : Int))) / (2 : Int) ^ x_2 / (2 :
  Int) ^ ((2 : Nat) * x_4) ∧ IntKind.wrap IntKind.i64 ((4 : Int) * gainF (List.getD s (Int.toNat (↑x : Int)) (0 : Int))) / (2 : Int) ^ x_2 / (2 : Int) ^ ((2 : Nat) * x_4) ≤ IntKind.max IntKind.i64 → bif decide (b < (↑x :
  Int) - (↑x_4 : Int)) then (2 : Int) ≠ (0 : Int) ∧ (2 : Int) ≠ (0 : Int) ∧ ∃ (y : Nat), (b = b ∧ (0 : Nat) = (0 : Nat) ∧ budTo s b x = budTo s b x ∧ (↑x : Int) = (↑x : Int) ∧ IntKind.wrap IntKind.i64 (Int.tdiv
  (IntKind.wrap IntKind.i64 (Int.tdiv (IntKind.wrap IntKind.i64 ((4 : Int) * gainF (List.getD s (Int.toNat (↑x : Int)) (0 : Int))) / (2 : Int) ^ x_2 / (2 : Int) ^ ((2 : Nat) * x_4)) (2 : Int))) (2 : Int)) = IntKind.wrap
  IntKind.i64 ((4 : Int) * gainF (List.getD s (Int.toNat (↑x : Int)) (0 : Int))) / (2 : Int) ^ x_2 / (2 : Int) ^ ((2 : Nat) * y) ∧ IntKind.wrap IntKind.i64 ((↑x : Int) - (↑x_4 : Int) - (1 : Int)) = (↑x : Int) - (↑y : Int) ∧
  s = s ∧ false = false) ∧ y ≤ Int.toNat ((↑x : Int) - b) ∧ Int.toNat ((↑x : Int) - b) - y < Int.toNat ((↑x : Int) - b) - x_4 else bif decide (budTo s b x < IntKind.wrap IntKind.i64 ((4 : Int) * gainF (List.getD s
  (Int.toNat (↑x : Int)) (0 : Int))) / (2 : Int) ^ x_2 / (2 : Int) ^ ((2 : Nat) * x_4)) then ∃ (y : Nat), (b = b ∧ (0 : Nat) = (0 : Nat) ∧ IntKind.wrap IntKind.i64 ((4 : Int) * gainF (List.getD s (Int.toNat (↑x : Int)) (0 :
  Int))) / (2 : Int) ^ x_2 / (2 : Int) ^ ((2 : Nat) * x_4) = budTo s b y ∧ IntKind.wrap IntKind.i64 ((↑x : Int) + (1 : Int)) = (↑y : Int) ∧ s = s ∧ false = false) ∧ y ≤ (8 : Nat) ∧ (8 : Nat) - y < (8 : Nat) - x else ∃ (y :
  Nat), (b = b ∧ (0 : Nat) = (0 : Nat) ∧ budTo s b x = budTo s b y ∧ IntKind.wrap IntKind.i64 ((↑x : Int) + (1 : Int)) = (↑y : Int) ∧ s = s ∧ false = false) ∧ y ≤ (8 : Nat) ∧ (8 : Nat) - y < (8 : Nat) - x else budTo s b x =
  budTo s b (8 : Nat)
theorem vcd58 (s : List Int) (b : Int) : Pd58 s b = vcFun Cd58 (annd58 s b) Go.Proofs.Tryd.f58 [⟨.arr 8 (.int .i64), s⟩, ⟨.int .i64, b⟩] [] (outd58 s b) := by kernel_rfl

noncomputable def Cd59 : Ctx := ⟨Go.Proofs.Tryd.prog, D, Gd58, (fun _ _ => none), fun _ => []⟩
def annd59 (y z : List Int) : Nat → St → Option Ann := fun _ _ => some ⟨Nat, [2, 3], [0, 1], fun i => [(6, .v (.int .i64) (i : Int)), (5, .v (.int .i64) (farM y z i))], fun _ => [], fun i => i ≤ 4, fun i => 4 - i⟩
def outd59 (y z : List Int) : COut := ⟨[smallV y ∧ smallV z], .v (.int .i64) (farM y z 4), [], []⟩
def spd59 : Spec := fun args ins => match args, ins with
  | [⟨.arr 4 (.int .i64), y⟩, ⟨.arr 4 (.int .i64), z⟩], [] => some (outd59 y z)
  | _, _ => none
def Gd59 := addG Gd58 59 spd59
def Pd59 (y z : List Int) : Prop :=
  ∃ (x : Nat), (((0 : Nat) = (0 : Nat) ∧ (0 : Nat) = (0 : Nat) ∧ (0 : Int) = farM y z x ∧ (0 : Int) = (↑x : Int) ∧ y = y ∧ false = false ∧ z = z ∧ false = false) ∧ x ≤ (4 : Nat)) ∧ ∀ (x : Nat), x ≤ (4 : Nat) → IntKind.min
  IntKind.i64 ≤ (↑x : Int) ∧ (↑x : Int) ≤ IntKind.max IntKind.i64 ∧ IntKind.min IntKind.i64 ≤ farM y z x ∧ farM y z x ≤ IntKind.max IntKind.i64 → bif decide ((↑x : Int) < (4 : Int)) then (((0 : Int) ≤ (↑x : Int) ∧ (↑x :
  Int) < (↑(4 : Nat) : Int)) ∧ Int.toNat (↑x : Int) < (4 : Nat) ∧ ((0 : Int) ≤ (↑x : Int) ∧ (↑x : Int) < (↑(4 : Nat) : Int)) ∧ Int.toNat (↑x : Int) < (4 : Nat)) ∧ ∃ (y_1 : Nat), ((0 : Nat) = (0 : Nat) ∧ (0 : Nat) = (0 :
  Nat) ∧ IntKind.wrap IntKind.i64 (farM y z x + szR (IntKind.wrap IntKind.i64 (List.getD y (Int.toNat (↑x : Int)) (0 : Int) - List.getD z (Int.toNat (↑x : Int)) (0 : Int)))) = farM y z y_1 ∧ IntKind.wrap IntKind.i64 ((↑x :
  Int) + (1 : Int)) = (↑y_1 : Int) ∧ y = y ∧ false = false ∧ z = z ∧ false = false) ∧ y_1 ≤ (4 : Nat) ∧ (4 : Nat) - y_1 < (4 : Nat) - x else farM y z x = farM y z (4 : Nat)
theorem vcd59 (y z : List Int) : Pd59 y z = vcFun Cd59 (annd59 y z) Go.Proofs.Tryd.f59 [⟨.arr 4 (.int .i64), y⟩, ⟨.arr 4 (.int .i64), z⟩] [] (outd59 y z) := by kernel_rfl

end Go.SL.A

/- What the document says of a frame's bit: its parts. -/
namespace Go.SL.A
open Go Go.SL Go.SL.S
set_option maxRecDepth 100000

theorem szR_absZ {x : Int} (h : -100000 ≤ x ∧ x ≤ 100000) : szR x = absZ x := by
  unfold szR absZ; split
  · rw [w64 (by omega) (by omega)]; omega
  · omega
theorem pured57 (k : Int) (h : 0 ≤ k ∧ k ≤ 12) : Pd57 k := by
  obtain ⟨K, rfl⟩ : ∃ K : Nat, k = K := ⟨k.toNat, by omega⟩
  have hK : K ≤ 12 := by omega
  have hl := numsF_len K
  unfold Pd57
  simp only [Int.toNat_natCast, Nat.zero_add, eq_self, true_and, and_true, seg1, List.length_singleton, List.drop_zero, List.append_eq]
  refine ⟨by omega, 0, ⟨⟨by omega, by simp, by simp [numsF]⟩, by omega⟩, fun x hx _ => ?_⟩
  by_cases hxk : (x : Int) + 1 ≤ (K : Int)
  · have w1 : IntKind.i64.wrap ((x : Int) + 1 + 1) = ((x + 1 : Nat) : Int) + 1 := by rw [w64 (by omega) (by omega)]; simp
    have w2 : IntKind.i64.wrap (0 - ((x : Int) + 1)) = -((x + 1 : Nat) : Int) := by rw [w64 (by omega) (by omega)]; omega
    simp only [hxk, decide_true, cond_true, w1, w2, List.length_append, numsF_len, List.length_singleton]
    refine ⟨by simp <;> omega, by simp <;> omega, x + 1, ⟨by omega, rfl, ?_⟩, by omega, by omega⟩
    rw [numsF, List.append_assoc]; simp
  have : x = K := by omega
  subst this
  simp only [hxk, decide_false, cond_false]
  refine ⟨0, ⟨⟨by simp [stA], by simp, by simp [stA]⟩, by omega⟩, fun a ha _ => ?_⟩
  by_cases hax : (a : Int) < ((2 * x + 1 : Nat) : Int)
  · have ha2 : a < 2 * x + 1 := by omega
    have wa : IntKind.i64.wrap ((a : Int) + 1) = ((a + 1 : Nat) : Int) := by rw [w64 (by omega) (by omega)]; simp
    have ma := szR_nums hK (getD_mem (d := 0) (f := numsF x) (k := a) (by omega))
    simp only [hax, decide_true, cond_true, wa]
    refine ⟨0, ⟨⟨by simp [stB], by simp, by simp [stB]⟩, by omega⟩, fun b hb _ => ?_⟩
    by_cases hbx : (b : Int) < ((2 * x + 1 : Nat) : Int)
    · have hb2 : b < 2 * x + 1 := by omega
      have wb : IntKind.i64.wrap ((b : Int) + 1) = ((b + 1 : Nat) : Int) := by rw [w64 (by omega) (by omega)]; simp
      have mb := szR_nums hK (getD_mem (d := 0) (f := numsF x) (k := b) (by omega))
      simp only [hbx, decide_true, cond_true, wb]
      refine ⟨0, ⟨⟨by simp [stC], by simp, by simp [stC]⟩, by omega⟩, fun c hc _ => ?_⟩
      by_cases hcx : (c : Int) < ((2 * x + 1 : Nat) : Int)
      · have hc2 : c < 2 * x + 1 := by omega
        have wc : IntKind.i64.wrap ((c : Int) + 1) = ((c + 1 : Nat) : Int) := by rw [w64 (by omega) (by omega)]; simp
        have mc := szR_nums hK (getD_mem (d := 0) (f := numsF x) (k := c) (by omega))
        have hs := (st_lens hK a b c).2.2
        have hst := stC_succ (K := x) (a := a) (b := b) hc2
        have n1 : (0 : Int) ≤ a := by omega
        have n2 : (0 : Int) ≤ b := by omega
        have n3 : (0 : Int) ≤ c := by omega
        have w1 : IntKind.i64.wrap ((x : Int) - szR ((numsF x).getD a 0)) = (x : Int) - szR ((numsF x).getD a 0) := w64 (by omega) (by omega)
        have w2 : IntKind.i64.wrap ((x : Int) - szR ((numsF x).getD a 0) - szR ((numsF x).getD b 0)) = (x : Int) - szR ((numsF x).getD a 0) - szR ((numsF x).getD b 0) := w64 (by omega) (by omega)
        have w3 : IntKind.i64.wrap ((x : Int) - szR ((numsF x).getD a 0) - szR ((numsF x).getD b 0) - szR ((numsF x).getD c 0)) = (x : Int) - szR ((numsF x).getD a 0) - szR ((numsF x).getD b 0) - szR ((numsF x).getD c 0) := w64 (by omega) (by omega)
        simp only [hcx, decide_true, cond_true, w1, w2, w3, wc, hl]
        unfold rowF at hst
        generalize hL : (x : Int) - szR ((numsF x).getD a 0) - szR ((numsF x).getD b 0) - szR ((numsF x).getD c 0) = L at *
        refine ⟨by simp [ha2, hb2, hc2], ?_⟩
        by_cases l0 : L < 0
        · rw [if_pos l0, List.append_nil] at hst
          simp only [l0, decide_true, cond_true]
          exact ⟨c + 1, ⟨by rw [hst], rfl, by rw [hst]⟩, by omega, by omega⟩
        · rw [if_neg l0] at hst
          simp only [l0, decide_false, cond_false]
          refine ⟨by simp [ha2, hb2, hc2]; omega, ?_⟩
          by_cases l1 : 0 < L
          · rw [if_pos l1] at hst
            have wL : IntKind.i64.wrap (0 - L) = -L := by rw [w64 (by omega) (by omega)]; omega
            simp only [l1, decide_true, cond_true, wL]
            refine ⟨by simp [ha2, hb2, hc2]; omega, c + 1, ⟨by rw [hst]; simp, rfl, by rw [hst]; simp⟩, by omega, by omega⟩
          · rw [if_neg l1] at hst
            simp only [l1, decide_false, cond_false]
            refine ⟨c + 1, ⟨by rw [hst]; simp, rfl, by rw [hst]; simp⟩, by omega, by omega⟩
      · have : c = 2 * x + 1 := by omega
        subst this
        simp only [hcx, decide_false, cond_false]
        exact ⟨b + 1, ⟨by rw [stC_all hb2], rfl, by rw [stC_all hb2]⟩, by omega, by omega⟩
    · have : b = 2 * x + 1 := by omega
      subst this
      simp only [hbx, decide_false, cond_false]
      exact ⟨a + 1, ⟨by rw [stB_all ha2], rfl, by rw [stB_all ha2]⟩, by omega, by omega⟩
  · have : a = 2 * x + 1 := by omega
    subst this
    simp only [hax, decide_false, cond_false]
    exact ⟨rfl, rfl⟩
theorem pured19 (y c : List Int) (hp : smallV y ∧ smallV c) : Pd19 y c := by
  obtain ⟨hy, hc⟩ := hp
  unfold Pd19
  have p0 := prod_fit (hy 0 (by omega)) (hc 0 (by omega))
  have p1 := prod_fit (hy 1 (by omega)) (hc 1 (by omega))
  have p2 := prod_fit (hy 2 (by omega)) (hc 2 (by omega))
  have p3 := prod_fit (hy 3 (by omega)) (hc 3 (by omega))
  refine ⟨by decide, ?_⟩
  rw [w64 (n := y.getD 0 0 * c.getD 0 0) (by omega) (by omega), w64 (n := y.getD 1 0 * c.getD 1 0) (by omega) (by omega), w64 (n := y.getD 2 0 * c.getD 2 0) (by omega) (by omega), w64 (n := y.getD 3 0 * c.getD 3 0) (by omega) (by omega), w64 (n := _ + y.getD 1 0 * c.getD 1 0) (by omega) (by omega), w64 (n := _ + y.getD 2 0 * c.getD 2 0) (by omega) (by omega), w64 (n := _ + y.getD 3 0 * c.getD 3 0) (by omega) (by omega)]
  show _ = 0 + y.getD 0 0 * c.getD 0 0 + y.getD 1 0 * c.getD 1 0 + y.getD 2 0 * c.getD 2 0 + y.getD 3 0 * c.getD 3 0
  omega

theorem hwd22 {y : List Int} (hw : Go.SL.allP (List.flatMap (fun a : AV => a.t.wf a.x) [⟨.arr 4 (.int .i64), y⟩] ++ List.flatMap Blk.wf [])) : y.length = 4 := by
  simp only [List.flatMap_cons, List.flatMap_nil, Ty.wf, List.append_nil, Go.SL.allP] at hw
  exact hw.1
theorem sumSz_app : ∀ a b : List Int, sumSz (a ++ b) = sumSz a + sumSz b
  | [], b => by simp [sumSz]
  | x :: a, b => by rw [List.cons_append, sumSz, sumSz, sumSz_app a b, Int.add_assoc]
theorem sz13_pos (x : Int) : 0 ≤ sz13 x ∧ sz13 x ≤ 13 := by unfold sz13; split <;> omega
theorem sumSz_fit : ∀ l : List Int, 0 ≤ sumSz l ∧ sumSz l ≤ 13 * l.length
  | [] => by simp [sumSz]
  | x :: l => by
    have := sumSz_fit l
    have := sz13_pos x
    rw [sumSz, List.length_cons]; omega
theorem okN_sz {x : Int} (h : okN x = true) : szR x = sz13 x ∧ sz13 x = absZ x := by
  have h := okN_iff.1 h
  rw [szR_absZ (by omega)]
  unfold sz13 absZ; rw [if_neg (by omega)]
  exact ⟨rfl, rfl⟩
theorem pured22 (y : List Int) (hl : y.length = 4) : Pd22 y := by
  unfold Pd22
  simp only [eq_self, true_and, and_true, Int.toNat_natCast]
  refine ⟨0, ⟨⟨rfl, rfl⟩, by omega, rfl⟩, fun i hi hw => ?_⟩
  clear hw
  obtain ⟨hi, ho⟩ := hi
  have hP : pulsesF y = min (sumSz y) 13 := by unfold pulsesF; rw [if_neg (by omega)]
  by_cases h : (i : Int) < 4
  · have hi2 : i < y.length := by omega
    have hsp := sumSz_app (y.take (i + 1)) (y.drop (i + 1))
    rw [List.take_append_drop, take_snoc' 0 hi2, sumSz_app] at hsp
    have f1 := (sumSz_fit (y.take i))
    have f3 : ((y.take i).length : Int) ≤ 4 := by rw [List.length_take]; omega
    have f2 := (sumSz_fit (y.drop (i + 1))).1
    have hst := all_step okN (0 : Int) hi2
    have hq : sumSz [y.getD i 0] = sz13 (y.getD i 0) := by rw [sumSz, sumSz, Int.add_zero]
    rw [hq] at hsp
    rw [decide_eq_true h, cond_true]
    intro b hb
    have hok : okN (y.getD i 0) = !(b || decide (12 < y.getD i 0)) := by unfold okN; rw [hb]
    refine ⟨⟨⟨by omega, by omega⟩, by omega, by cases b <;> simp <;> omega⟩, ?_⟩
    cases hc : (bif b then true else decide (12 < y.getD i 0)) with
    | true =>
      rw [cond_true, hP]
      have hbad : okN (y.getD i 0) = false := by
        rw [hok]
        cases b with
        | true => rfl
        | false => rw [cond_false] at hc; rw [hc]; rfl
      have : ¬ (-12 ≤ y.getD i 0 ∧ y.getD i 0 ≤ 12) := fun hh => by rw [okN_iff.2 hh] at hbad; cases hbad
      have e : sz13 (y.getD i 0) = 13 := by unfold sz13; rw [if_pos (by omega)]
      omega
    | false =>
      rw [cond_false]
      have hgood : okN (y.getD i 0) = true := by
        rw [hok]
        cases b with
        | true => cases hc
        | false => rw [cond_false] at hc; rw [hc]; rfl
      obtain ⟨e1, -⟩ := okN_sz hgood
      have f4 := sz13_pos (y.getD i 0)
      refine ⟨⟨by omega, by omega⟩, i + 1, ⟨?_, step_i (by omega)⟩, ⟨by omega, ?_⟩, by omega⟩
      · rw [e1, take_snoc' 0 hi2, sumSz_app, hq, w64 (by omega) (by omega)]
      · have ho : (y.take i).all okN = true := ho
        show (y.take (i + 1)).all okN = true
        rw [hst, ho, hgood]; rfl
  · have : i = 4 := by omega
    subst this
    rw [decide_eq_false h, cond_false, List.take_of_length_le (by omega), hP]

theorem gain_two {t : Int} (h : 0 ≤ t ∧ t ≤ 15) : gainF t = 2 ^ t.toNat := by unfold gainF; rw [if_neg (by omega)]
theorem pow_half {x : Int} (n : Nat) : x / 2 ^ n / 2 = x / 2 ^ (n + 1) := by
  rw [Int.pow_succ, Int.ediv_ediv_of_nonneg (Int.le_of_lt (Int.pow_pos (by decide)))]
theorem tdiv_two {x : Int} (h : 0 ≤ x) : x.tdiv 2 = x / 2 := Int.tdiv_eq_ediv_of_nonneg h
theorem half_fit {x : Int} (h : 0 ≤ x) (n : Nat) : 0 ≤ x / 2 ^ n ∧ x / 2 ^ n ≤ x :=
  ⟨Int.ediv_nonneg h (Int.le_of_lt (Int.pow_pos (by decide))), Int.ediv_le_self _ h⟩
theorem pured58 (s : List Int) (b : Int) (hp : rightF s = true ∧ 0 ≤ b ∧ b < 8) : Pd58 s b := by
  obtain ⟨hr, hb0, hb8⟩ := hp
  unfold Pd58
  simp only [eq_self, true_and, and_true]
  refine ⟨0, ⟨⟨rfl, rfl⟩, by omega⟩, fun j hj hw => ?_⟩
  clear hw
  have hbf := bud_fit hr b j
  by_cases h : (j : Int) < 8
  · have hs := right_get hr j
    obtain ⟨-, e2, e3⟩ := shl4 hs
    have hst : budTo s b (j + 1) = max (budTo s b j) (budX s b j) := rfl
    have hx : IntKind.i64.wrap (4 * gainF (s.getD j 0)) = 4 * 2 ^ (s.getD j 0).toNat := by
      rw [gain_two hs, w64 (by omega) (by omega)]
    rw [decide_eq_true h, cond_true]
    unfold budX at hst
    have ej : ((j : Int)).toNat = j := Int.toNat_natCast j
    rw [← ej] at hx
    generalize IntKind.i64.wrap (4 * gainF (s.getD (j : Int).toNat 0)) = x at *
    rw [ej] at hx ⊢
    rw [← hx] at e2 e3 hst
    clear hx
    refine ⟨⟨⟨by omega, by omega⟩, by omega, hs⟩, 0, ⟨⟨by simp, by omega⟩, by omega⟩, fun m hm hw => ?_⟩
    clear hw
    have hm1 := half_fit e2 m
    by_cases h2 : (j : Int) + (m : Int) < b
    · rw [decide_eq_true h2, cond_true, tdiv_two hm1.1, pow_half, w64 (n := x / 2 ^ (m + 1)) (by have := half_fit e2 (m + 1); omega) (by have := half_fit e2 (m + 1); omega)]
      exact ⟨by decide, m + 1, ⟨rfl, by rw [w64 (by omega) (by omega)]; omega⟩, by omega, by omega⟩
    · rw [decide_eq_false h2, cond_false]
      have hmm : m = (b - (j : Int)).toNat := by omega
      refine ⟨0, ⟨⟨by simp, by omega⟩, by omega⟩, fun m2 hm2 hw => ?_⟩
      clear hw
      have hm3 := half_fit hm1.1 (2 * m2)
      by_cases h3 : b < (j : Int) - (m2 : Int)
      · have f1 := half_fit hm1.1 (2 * m2 + 1)
        have f2 := half_fit hm1.1 (2 * m2 + 1 + 1)
        rw [decide_eq_true h3, cond_true, tdiv_two hm3.1, pow_half, w64 (n := x / 2 ^ m / 2 ^ (2 * m2 + 1)) (by omega) (by omega), tdiv_two f1.1, pow_half, w64 (n := x / 2 ^ m / 2 ^ (2 * m2 + 1 + 1)) (by omega) (by omega)]
        exact ⟨by decide, by decide, m2 + 1, ⟨rfl, by rw [w64 (by omega) (by omega)]; omega⟩, by omega, by omega⟩
      · rw [decide_eq_false h3, cond_false]
        have hm4 : m2 = ((j : Int) - b).toNat := by omega
        have key : x / 2 ^ m / 2 ^ (2 * m2) = (if (j : Int) ≤ b then slopeX x 1 (b - (j : Int)) else slopeX x 2 ((j : Int) - b)) := by
          unfold slopeX
          split
          · have : m2 = 0 := by omega
            subst this
            rw [Nat.mul_zero, Int.pow_zero, Int.ediv_one, hmm, Int.one_mul]
          · have : m = 0 := by omega
            rw [this, Int.pow_zero, Int.ediv_one, show (2 * ((j : Int) - b)).toNat = 2 * m2 by omega]
        rw [key] at hm3 ⊢
        generalize (if (j : Int) ≤ b then slopeX x 1 (b - (j : Int)) else slopeX x 2 ((j : Int) - b)) = q at *
        by_cases h4 : budTo s b j < q
        · rw [decide_eq_true h4, cond_true]
          exact ⟨j + 1, ⟨by omega, step_i (by omega)⟩, by omega, by omega⟩
        · rw [decide_eq_false h4, cond_false]
          exact ⟨j + 1, ⟨by omega, step_i (by omega)⟩, by omega, by omega⟩
  · have : j = 8 := by omega
    subst this
    rw [decide_eq_false h, cond_false]

theorem pured59 (y z : List Int) (hp : smallV y ∧ smallV z) : Pd59 y z := by
  obtain ⟨hy, hz⟩ := hp
  unfold Pd59
  simp only [eq_self, true_and, and_true, Int.toNat_natCast]
  refine ⟨0, ⟨⟨rfl, rfl⟩, by omega⟩, fun i hi hw => ?_⟩
  clear hw
  by_cases h : (i : Int) < 4
  · have h1 := hy i (by omega)
    have h2 := hz i (by omega)
    have hf := far_fitM hy hz i hi
    have hst : farM y z (i + 1) = farM y z i + absZ (y.getD i 0 - z.getD i 0) := rfl
    rw [decide_eq_true h, cond_true, w64 (n := y.getD i 0 - z.getD i 0) (by omega) (by omega), szR_absZ (by omega)]
    have hab : 0 ≤ absZ (y.getD i 0 - z.getD i 0) ∧ absZ (y.getD i 0 - z.getD i 0) ≤ 2000 := by unfold absZ; omega
    rw [w64 (n := farM y z i + absZ (y.getD i 0 - z.getD i 0)) (by omega) (by omega)]
    exact ⟨⟨⟨by omega, by omega⟩, by omega, ⟨by omega, by omega⟩, by omega⟩, i + 1, ⟨hst.symm, step_i (by omega)⟩, by omega, by omega⟩
  · have : i = 4 := by omega
    subst this
    rw [decide_eq_false h, cond_false]
end Go.SL.A

/- Functions do what they are held to do. -/
namespace Go.SL.A
open Go Go.SL Go.SL.S
theorem sndd57 : Sound Go.Proofs.Tryd.prog Gd57 := sndd50.add ⟨_, Go.Proofs.Tryd.func57, by kernel_rfl, by kernel_rfl⟩ (by
  intro args ins out h hp
  unfold spd57 at h
  split at h
  · rename_i k
    cases h
    exact vcFun_ok (C := Cd57) good sndd50 Meth.none mix Go.Proofs.Tryd.func57 (annd57 k) (fun hw => by rw [← vcd57 k]; exact pured57 k hp)
  · cases h)

theorem sndd19 : Sound Go.Proofs.Tryd.prog Gd19 := sndd57.add ⟨_, Go.Proofs.Tryd.func19, by kernel_rfl, by kernel_rfl⟩ (by
  intro args ins out h hp
  unfold spd19 at h
  split at h
  · rename_i y c
    cases h
    exact vcFun_ok (C := Cd19) good sndd57 Meth.none mix Go.Proofs.Tryd.func19 (annd19 y c) (fun hw => by rw [← vcd19 y c]; exact pured19 y c hp)
  · cases h)

theorem sndd22 : Sound Go.Proofs.Tryd.prog Gd22 := sndd19.add ⟨_, Go.Proofs.Tryd.func22, by kernel_rfl, by kernel_rfl⟩ (by
  intro args ins out h hp
  unfold spd22 at h
  split at h
  · rename_i y
    cases h
    exact vcFun_ok (C := Cd22) good sndd19 Meth.none mix Go.Proofs.Tryd.func22 (annd22 y) (fun hw => by rw [← vcd22 y]; exact pured22 y (hwd22 hw))
  · cases h)

theorem sndd58 : Sound Go.Proofs.Tryd.prog Gd58 := sndd22.add ⟨_, Go.Proofs.Tryd.func58, by kernel_rfl, by kernel_rfl⟩ (by
  intro args ins out h hp
  unfold spd58 at h
  split at h
  · rename_i s b
    cases h
    exact vcFun_ok (C := Cd58) good sndd22 Meth.none mix Go.Proofs.Tryd.func58 (annd58 s b) (fun hw => by rw [← vcd58 s b]; exact pured58 s b hp)
  · cases h)

theorem sndd59 : Sound Go.Proofs.Tryd.prog Gd59 := sndd58.add ⟨_, Go.Proofs.Tryd.func59, by kernel_rfl, by kernel_rfl⟩ (by
  intro args ins out h hp
  unfold spd59 at h
  split at h
  · rename_i y z
    cases h
    exact vcFun_ok (C := Cd59) good sndd58 Meth.none mix Go.Proofs.Tryd.func59 (annd59 y z) (fun hw => by rw [← vcd59 y z]; exact pured59 y z hp)
  · cases h)

end Go.SL.A

/- Functions and what they are held to do: bound to their code. -/
namespace Go.SL.A
open Go Go.SL Go.SL.S
set_option maxRecDepth 100000
noncomputable def Cd23 : Ctx := ⟨Go.Proofs.Tryd.prog, D, Gd59, (fun _ _ => none), fun r => match r with | 1 => [2] | 17 => [3] | _ => []⟩
def annd23 (_k : List Int) (_f : Int) (_bit : Bool) (_s : List Int × List (List Int)) : Nat → St → Option Ann := fun id S => match id with | 0 => some ⟨Nat, [7, 8, 10, 11], [1, 2], fun i => [(12, .v (.int .i64) (i : Int))], fun i => [(3, some ⟨false, true, .arr 4 (.int .i64), [(negC (S.x 3 (.arr 4 (.int .i64)))).take i ++ (S.x 3 (.arr 4 (.int .i64))).drop i]⟩)], fun i => i ≤ 4, fun i => 4 - i⟩ | 2 => some ⟨Nat, [7, 8, 10, 11, 13], [1, 2, 3, 4], fun i => [(15, .v (.int .i64) (i : Int)), (14, .v (.int .i64) (sumAb (S.x 4 (.arr 4 (.int .i64))) i))], fun _ => [], fun i => i ≤ 4, fun i => 4 - i⟩ | _ => some ⟨Nat, [7, 8, 10, 11, 13, 16, 17, 20], [1, 2, 3, 4, 5], fun i => [(21, .v (.int .i64) (i : Int)), (18, .v .bool (refTo (S.x 4 (.arr 4 (.int .i64))) (S.x 3 (.arr 4 (.int .i64))) (gainF ((S.x 1 (.cons (.arr 8 (.int .i64)) (.last (.arr 8 (.arr 4 (.int .i64)))))).1.getD (S.i 10).toNat 0)) (S.i 17) (S.xs 5 (.arr 4 (.int .i64))) i).1), (19, .v (.int .i64) (refTo (S.x 4 (.arr 4 (.int .i64))) (S.x 3 (.arr 4 (.int .i64))) (gainF ((S.x 1 (.cons (.arr 8 (.int .i64)) (.last (.arr 8 (.arr 4 (.int .i64)))))).1.getD (S.i 10).toNat 0)) (S.i 17) (S.xs 5 (.arr 4 (.int .i64))) i).2.1)], fun i => [(6, some ⟨false, true, .arr 4 (.int .i64), [(refTo (S.x 4 (.arr 4 (.int .i64))) (S.x 3 (.arr 4 (.int .i64))) (gainF ((S.x 1 (.cons (.arr 8 (.int .i64)) (.last (.arr 8 (.arr 4 (.int .i64)))))).1.getD (S.i 10).toNat 0)) (S.i 17) (S.xs 5 (.arr 4 (.int .i64))) i).2.2]⟩)], fun i => i ≤ (S.xs 5 (.arr 4 (.int .i64))).length, fun i => (S.xs 5 (.arr 4 (.int .i64))).length - i⟩
def outd23 (k : List Int) (f : Int) (bit : Bool) (s : List Int × List (List Int)) : COut := ⟨[heldB s.2 = true ∧ rightF s.1 = true ∧ pulsesF (rowZ s.2 (bandK k f)) ≤ 12], .tup [⟨(.cons (.arr 8 (.int .i64)) (.last (.arr 8 (.arr 4 (.int .i64))))), (refM k f bit s).1⟩, ⟨.bool, (refM k f bit s).2⟩], [], []⟩
def spd23 : Spec := fun args ins => match args, ins with
  | [⟨.arr 16 (.int .u8), k⟩, ⟨.int .i64, f⟩, ⟨.bool, bit⟩, ⟨(.cons (.arr 8 (.int .i64)) (.last (.arr 8 (.arr 4 (.int .i64))))), s⟩], [] => some (outd23 k f bit s)
  | _, _ => none
def Gd23 := addG Gd59 23 spd23
def Pd23 (k : List Int) (f : Int) (bit : Bool) (s : List Int × List (List Int)) : Prop :=
  ∀ (n : Int), bandK k f = n → bif bit then ∃ (x : Nat), (((0 : Nat) = (0 : Nat) ∧ (0 : Nat) = (0 : Nat) ∧ n = n ∧ (0 : Nat) = (0 : Nat) ∧ (0 : Int) = (↑x : Int) ∧ Prod.fst s = Prod.fst s ∧ Prod.snd s = Prod.snd s ∧ false =
  false ∧ List.replicate (8 : Nat) (0 : Int) = List.replicate (8 : Nat) (0 : Int) ∧ List.replicate (8 : Nat) (List.replicate (4 : Nat) (0 : Int)) = List.replicate (8 : Nat) (List.replicate (4 : Nat) (0 : Int)) ∧ false =
  false ∧ chipsK k f = List.take x (negC (chipsK k f)) ++ List.drop x (chipsK k f) ∧ false = false) ∧ x ≤ (4 : Nat)) ∧ ∀ (x : Nat), x ≤ (4 : Nat) → (IntKind.min IntKind.i64 ≤ (↑x : Int) ∧ (↑x : Int) ≤ IntKind.max
  IntKind.i64 ∧ ∀ (y : List Int), List.Mem y [List.take x (negC (chipsK k f)) ++ List.drop x (chipsK k f)] → List.length y = (4 : Nat) ∧ ∀ (y_1 : Int), List.Mem y_1 y → IntKind.min IntKind.i64 ≤ y_1 ∧ y_1 ≤ IntKind.max
  IntKind.i64) → bif decide ((↑x : Int) < (4 : Int)) then (((0 : Int) ≤ (↑x : Int) ∧ (↑x : Int) < (↑(4 : Nat) : Int)) ∧ Int.toNat (↑x : Int) < (4 : Nat) ∧ ((0 : Int) ≤ (↑x : Int) ∧ (↑x : Int) < (↑(4 : Nat) : Int)) ∧
  Int.toNat (↑x : Int) < (4 : Nat)) ∧ ∃ (y : Nat), ((0 : Nat) = (0 : Nat) ∧ (0 : Nat) = (0 : Nat) ∧ n = n ∧ (0 : Nat) = (0 : Nat) ∧ IntKind.wrap IntKind.i64 ((↑x : Int) + (1 : Int)) = (↑y : Int) ∧ Prod.fst s = Prod.fst s ∧
  Prod.snd s = Prod.snd s ∧ false = false ∧ List.replicate (8 : Nat) (0 : Int) = List.replicate (8 : Nat) (0 : Int) ∧ List.replicate (8 : Nat) (List.replicate (4 : Nat) (0 : Int)) = List.replicate (8 : Nat) (List.replicate
  (4 : Nat) (0 : Int)) ∧ false = false ∧ List.set (List.take x (negC (chipsK k f)) ++ List.drop x (chipsK k f)) (Int.toNat (↑x : Int)) (IntKind.wrap IntKind.i64 ((0 : Int) - List.getD (List.take x (negC (chipsK k f)) ++
  List.drop x (chipsK k f)) (Int.toNat (↑x : Int)) (0 : Int))) = List.take y (negC (chipsK k f)) ++ List.drop y (chipsK k f) ∧ false = false) ∧ y ≤ (4 : Nat) ∧ (4 : Nat) - y < (4 : Nat) - x else (((0 : Int) ≤ n ∧ n < (↑(8 :
  Nat) : Int)) ∧ Int.toNat n < (8 : Nat)) ∧ (smallV (List.getD (Prod.snd s) (Int.toNat n) (List.replicate (4 : Nat) (0 : Int))) ∧ smallV (List.take x (negC (chipsK k f)) ++ List.drop x (chipsK k f))) ∧ bif decide ((2 : Int)
  ≤ dotZ (List.getD (Prod.snd s) (Int.toNat n) (List.replicate (4 : Nat) (0 : Int))) (List.take x (negC (chipsK k f)) ++ List.drop x (chipsK k f)) (4 : Nat)) then Prod.fst s = Prod.fst (Prod.fst (refM k f bit s)) ∧ Prod.snd
  s = Prod.snd (Prod.fst (refM k f bit s)) ∧ true = Prod.snd (refM k f bit s) else ∃ (x_1 : Nat), (((0 : Nat) = (0 : Nat) ∧ (0 : Nat) = (0 : Nat) ∧ n = n ∧ (0 : Nat) = (0 : Nat) ∧ (0 : Nat) = (0 : Nat) ∧ (0 : Int) = sumAb
  (List.getD (Prod.snd s) (Int.toNat n) (List.replicate (4 : Nat) (0 : Int))) x_1 ∧ (0 : Int) = (↑x_1 : Int) ∧ Prod.fst s = Prod.fst s ∧ Prod.snd s = Prod.snd s ∧ false = false ∧ List.replicate (8 : Nat) (0 : Int) =
  List.replicate (8 : Nat) (0 : Int) ∧ List.replicate (8 : Nat) (List.replicate (4 : Nat) (0 : Int)) = List.replicate (8 : Nat) (List.replicate (4 : Nat) (0 : Int)) ∧ false = false ∧ List.append (List.take x (negC (chipsK k
  f))) (List.drop x (chipsK k f)) = List.take x (negC (chipsK k f)) ++ List.drop x (chipsK k f) ∧ false = false ∧ List.getD (Prod.snd s) (Int.toNat n) (List.replicate (4 : Nat) (0 : Int)) = List.getD (Prod.snd s) (Int.toNat
  n) (List.replicate (4 : Nat) (0 : Int)) ∧ false = false) ∧ x_1 ≤ (4 : Nat)) ∧ ∀ (x_2 : Nat), x_2 ≤ (4 : Nat) → IntKind.min IntKind.i64 ≤ (↑x_2 : Int) ∧ (↑x_2 : Int) ≤ IntKind.max IntKind.i64 ∧ IntKind.min IntKind.i64 ≤
  sumAb (List.getD (Prod.snd s) (Int.toNat n) (List.replicate (4 : Nat) (0 : Int))) x_2 ∧ sumAb (List.getD (Prod.snd s) (Int.toNat n) (List.replicate (4 : Nat) (0 : Int))) x_2 ≤ IntKind.max IntKind.i64 → bif decide ((↑x_2 :
  Int) < (4 : Int)) then (((0 : Int) ≤ (↑x_2 : Int) ∧ (↑x_2 : Int) < (↑(4 : Nat) : Int)) ∧ Int.toNat (↑x_2 : Int) < (4 : Nat)) ∧ ∃ (y : Nat), ((0 : Nat) = (0 : Nat) ∧ (0 : Nat) = (0 : Nat) ∧ n = n ∧ (0 : Nat) = (0 : Nat) ∧
  (0 : Nat) = (0 : Nat) ∧ IntKind.wrap IntKind.i64 (sumAb (List.getD (Prod.snd s) (Int.toNat n) (List.replicate (4 : Nat) (0 : Int))) x_2 + szR (List.getD (List.getD (Prod.snd s) (Int.toNat n) (List.replicate (4 : Nat) (0 :
  Int))) (Int.toNat (↑x_2 : Int)) (0 : Int))) = sumAb (List.getD (Prod.snd s) (Int.toNat n) (List.replicate (4 : Nat) (0 : Int))) y ∧ IntKind.wrap IntKind.i64 ((↑x_2 : Int) + (1 : Int)) = (↑y : Int) ∧ Prod.fst s = Prod.fst
  s ∧ Prod.snd s = Prod.snd s ∧ false = false ∧ List.replicate (8 : Nat) (0 : Int) = List.replicate (8 : Nat) (0 : Int) ∧ List.replicate (8 : Nat) (List.replicate (4 : Nat) (0 : Int)) = List.replicate (8 : Nat)
  (List.replicate (4 : Nat) (0 : Int)) ∧ false = false ∧ List.append (List.take x (negC (chipsK k f))) (List.drop x (chipsK k f)) = List.take x (negC (chipsK k f)) ++ List.drop x (chipsK k f) ∧ false = false ∧ List.getD
  (Prod.snd s) (Int.toNat n) (List.replicate (4 : Nat) (0 : Int)) = List.getD (Prod.snd s) (Int.toNat n) (List.replicate (4 : Nat) (0 : Int)) ∧ false = false) ∧ y ≤ (4 : Nat) ∧ (4 : Nat) - y < (4 : Nat) - x_2 else ((0 :
  Int) ≤ sumAb (List.getD (Prod.snd s) (Int.toNat n) (List.replicate (4 : Nat) (0 : Int))) x_2 ∧ sumAb (List.getD (Prod.snd s) (Int.toNat n) (List.replicate (4 : Nat) (0 : Int))) x_2 ≤ (12 : Int)) ∧ ∀ (n_1 : Int), budTo
  (Prod.fst s) n (8 : Nat) = n_1 → (rightF (Prod.fst s) = true ∧ (0 : Int) ≤ n ∧ n < (8 : Int)) ∧ ∃ (x_3 : Nat), (((0 : Nat) = (0 : Nat) ∧ (0 : Nat) = (0 : Nat) ∧ n = n ∧ (0 : Nat) = (0 : Nat) ∧ (0 : Nat) = (0 : Nat) ∧ (0 :
  Nat) = (0 : Nat) ∧ List.length (allF (Int.toNat (sumAb (List.getD (Prod.snd s) (Int.toNat n) (List.replicate (4 : Nat) (0 : Int))) x_2))) = List.length (allF (Int.toNat (sumAb (List.getD (Prod.snd s) (Int.toNat n)
  (List.replicate (4 : Nat) (0 : Int))) x_2))) ∧ n_1 = n_1 ∧ false = Prod.fst (refTo (List.getD (Prod.snd s) (Int.toNat n) (List.replicate (4 : Nat) (0 : Int))) (List.append (List.take x (negC (chipsK k f))) (List.drop x
  (chipsK k f))) (gainF (List.getD (Prod.fst s) (Int.toNat n) (0 : Int))) n_1 (allF (Int.toNat (sumAb (List.getD (Prod.snd s) (Int.toNat n) (List.replicate (4 : Nat) (0 : Int))) x_2))) x_3) ∧ (0 : Int) = Prod.fst (Prod.snd
  (refTo (List.getD (Prod.snd s) (Int.toNat n) (List.replicate (4 : Nat) (0 : Int))) (List.append (List.take x (negC (chipsK k f))) (List.drop x (chipsK k f))) (gainF (List.getD (Prod.fst s) (Int.toNat n) (0 : Int))) n_1
  (allF (Int.toNat (sumAb (List.getD (Prod.snd s) (Int.toNat n) (List.replicate (4 : Nat) (0 : Int))) x_2))) x_3)) ∧ (0 : Nat) = (0 : Nat) ∧ (0 : Int) = (↑x_3 : Int) ∧ Prod.fst s = Prod.fst s ∧ Prod.snd s = Prod.snd s ∧
  false = false ∧ List.replicate (8 : Nat) (0 : Int) = List.replicate (8 : Nat) (0 : Int) ∧ List.replicate (8 : Nat) (List.replicate (4 : Nat) (0 : Int)) = List.replicate (8 : Nat) (List.replicate (4 : Nat) (0 : Int)) ∧
  false = false ∧ List.append (List.take x (negC (chipsK k f))) (List.drop x (chipsK k f)) = List.take x (negC (chipsK k f)) ++ List.drop x (chipsK k f) ∧ false = false ∧ List.getD (Prod.snd s) (Int.toNat n) (List.replicate
  (4 : Nat) (0 : Int)) = List.getD (Prod.snd s) (Int.toNat n) (List.replicate (4 : Nat) (0 : Int)) ∧ false = false ∧ allF (Int.toNat (sumAb (List.getD (Prod.snd s) (Int.toNat n) (List.replicate (4 : Nat) (0 : Int))) x_2)) =
  allF (Int.toNat (sumAb (List.getD (Prod.snd s) (Int.toNat n) (List.replicate (4 : Nat) (0 : Int))) x_2)) ∧ false = false ∧ List.getD (Prod.snd s) (Int.toNat n) (List.replicate (4 : Nat) (0 : Int)) = Prod.snd (Prod.snd
  (refTo (List.getD (Prod.snd s) (Int.toNat n) (List.replicate (4 : Nat) (0 : Int))) (List.append (List.take x (negC (chipsK k f))) (List.drop x (chipsK k f))) (gainF (List.getD (Prod.fst s) (Int.toNat n) (0 : Int))) n_1
  (allF (Int.toNat (sumAb (List.getD (Prod.snd s) (Int.toNat n) (List.replicate (4 : Nat) (0 : Int))) x_2))) x_3)) ∧ false = false) ∧ x_3 ≤ List.length (allF (Int.toNat (sumAb (List.getD (Prod.snd s) (Int.toNat n)
  (List.replicate (4 : Nat) (0 : Int))) x_2)))) ∧ ∀ (x_4 : Nat), x_4 ≤ List.length (allF (Int.toNat (sumAb (List.getD (Prod.snd s) (Int.toNat n) (List.replicate (4 : Nat) (0 : Int))) x_2))) → (IntKind.min IntKind.i64 ≤
  (↑x_4 : Int) ∧ (↑x_4 : Int) ≤ IntKind.max IntKind.i64 ∧ IntKind.min IntKind.i64 ≤ Prod.fst (Prod.snd (refTo (List.getD (Prod.snd s) (Int.toNat n) (List.replicate (4 : Nat) (0 : Int))) (List.append (List.take x (negC
  (chipsK k f))) (List.drop x (chipsK k f))) (gainF (List.getD (Prod.fst s) (Int.toNat n) (0 : Int))) n_1 (allF (Int.toNat (sumAb (List.getD (Prod.snd s) (Int.toNat n) (List.replicate (4 : Nat) (0 : Int))) x_2))) x_4)) ∧
  Prod.fst (Prod.snd (refTo (List.getD (Prod.snd s) (Int.toNat n) (List.replicate (4 : Nat) (0 : Int))) (List.append (List.take x (negC (chipsK k f))) (List.drop x (chipsK k f))) (gainF (List.getD (Prod.fst s) (Int.toNat n)
  (0 : Int))) n_1 (allF (Int.toNat (sumAb (List.getD (Prod.snd s) (Int.toNat n) (List.replicate (4 : Nat) (0 : Int))) x_2))) x_4)) ≤ IntKind.max IntKind.i64 ∧ ∀ (y : List Int), List.Mem y [Prod.snd (Prod.snd (refTo
  (List.getD (Prod.snd s) (Int.toNat n) (List.replicate (4 : Nat) (0 : Int))) (List.append (List.take x (negC (chipsK k f))) (List.drop x (chipsK k f))) (gainF (List.getD (Prod.fst s) (Int.toNat n) (0 : Int))) n_1 (allF
  (Int.toNat (sumAb (List.getD (Prod.snd s) (Int.toNat n) (List.replicate (4 : Nat) (0 : Int))) x_2))) x_4))] → List.length y = (4 : Nat) ∧ ∀ (y_1 : Int), List.Mem y_1 y → IntKind.min IntKind.i64 ≤ y_1 ∧ y_1 ≤ IntKind.max
  IntKind.i64) → bif decide ((↑x_4 : Int) < (↑(List.length (allF (Int.toNat (sumAb (List.getD (Prod.snd s) (Int.toNat n) (List.replicate (4 : Nat) (0 : Int))) x_2)))) : Int)) then (((0 : Int) ≤ (↑x_4 : Int) ∧ (↑x_4 : Int) <
  (↑(List.length (allF (Int.toNat (sumAb (List.getD (Prod.snd s) (Int.toNat n) (List.replicate (4 : Nat) (0 : Int))) x_2)))) : Int)) ∧ (0 : Nat) + Int.toNat (↑x_4 : Int) < List.length (allF (Int.toNat (sumAb (List.getD
  (Prod.snd s) (Int.toNat n) (List.replicate (4 : Nat) (0 : Int))) x_2))) ∧ smallV (List.getD (Prod.snd s) (Int.toNat n) (List.replicate (4 : Nat) (0 : Int))) ∧ smallV (List.getD (allF (Int.toNat (sumAb (List.getD (Prod.snd
  s) (Int.toNat n) (List.replicate (4 : Nat) (0 : Int))) x_2))) ((0 : Nat) + Int.toNat (↑x_4 : Int)) (List.replicate (4 : Nat) (0 : Int)))) ∧ bif decide ((2 : Int) ≤ dotZ (List.getD (allF (Int.toNat (sumAb (List.getD
  (Prod.snd s) (Int.toNat n) (List.replicate (4 : Nat) (0 : Int))) x_2))) ((0 : Nat) + Int.toNat (↑x_4 : Int)) (List.replicate (4 : Nat) (0 : Int))) (List.take x (negC (chipsK k f)) ++ List.drop x (chipsK k f)) (4 : Nat))
  then ∀ (b : Bool), decide (IntKind.wrap IntKind.i64 (farM (List.getD (Prod.snd s) (Int.toNat n) (List.replicate (4 : Nat) (0 : Int))) (List.getD (allF (Int.toNat (sumAb (List.getD (Prod.snd s) (Int.toNat n)
  (List.replicate (4 : Nat) (0 : Int))) x_2))) ((0 : Nat) + Int.toNat (↑x_4 : Int)) (List.replicate (4 : Nat) (0 : Int))) (4 : Nat) * gainF (List.getD (Prod.fst s) (Int.toNat n) (0 : Int))) ≤ n_1) = b → ∀ (b_1 : Bool),
  (!Prod.fst (refTo (List.getD (Prod.snd s) (Int.toNat n) (List.replicate (4 : Nat) (0 : Int))) (List.append (List.take x (negC (chipsK k f))) (List.drop x (chipsK k f))) (gainF (List.getD (Prod.fst s) (Int.toNat n) (0 :
  Int))) n_1 (allF (Int.toNat (sumAb (List.getD (Prod.snd s) (Int.toNat n) (List.replicate (4 : Nat) (0 : Int))) x_2))) x_4)) = b_1 → (((0 : Int) ≤ (↑x_4 : Int) ∧ (↑x_4 : Int) < (↑(List.length (allF (Int.toNat (sumAb
  (List.getD (Prod.snd s) (Int.toNat n) (List.replicate (4 : Nat) (0 : Int))) x_2)))) : Int)) ∧ (0 : Nat) + Int.toNat (↑x_4 : Int) < List.length (allF (Int.toNat (sumAb (List.getD (Prod.snd s) (Int.toNat n) (List.replicate
  (4 : Nat) (0 : Int))) x_2))) ∧ (smallV (List.getD (allF (Int.toNat (sumAb (List.getD (Prod.snd s) (Int.toNat n) (List.replicate (4 : Nat) (0 : Int))) x_2))) ((0 : Nat) + Int.toNat (↑x_4 : Int)) (List.replicate (4 : Nat)
  (0 : Int))) ∧ smallV (List.take x (negC (chipsK k f)) ++ List.drop x (chipsK k f))) ∧ ((0 : Int) ≤ n ∧ n < (↑(8 : Nat) : Int)) ∧ Int.toNat n < (8 : Nat) ∧ ((0 : Int) ≤ List.getD (Prod.fst s) (Int.toNat n) (0 : Int) ∧
  List.getD (Prod.fst s) (Int.toNat n) (0 : Int) ≤ (15 : Int)) ∧ (b = true → b = true) ∧ ((b && b && !b_1) = true → (b && b && !b_1) = true ∧ (b && b && !b_1) = true) ∧ (b = true → (b && b) = true ∧ (b_1 = false → (b && b
  && !b_1) = true)) ∧ (b = true → b = true)) ∧ bif bif b then bif b_1 then true else decide (farM (List.getD (Prod.snd s) (Int.toNat n) (List.replicate (4 : Nat) (0 : Int))) (List.getD (allF (Int.toNat (sumAb (List.getD
  (Prod.snd s) (Int.toNat n) (List.replicate (4 : Nat) (0 : Int))) x_2))) ((0 : Nat) + Int.toNat (↑x_4 : Int)) (List.replicate (4 : Nat) (0 : Int))) (4 : Nat) < Prod.fst (Prod.snd (refTo (List.getD (Prod.snd s) (Int.toNat
  n) (List.replicate (4 : Nat) (0 : Int))) (List.append (List.take x (negC (chipsK k f))) (List.drop x (chipsK k f))) (gainF (List.getD (Prod.fst s) (Int.toNat n) (0 : Int))) n_1 (allF (Int.toNat (sumAb (List.getD (Prod.snd
  s) (Int.toNat n) (List.replicate (4 : Nat) (0 : Int))) x_2))) x_4))) else false then (((0 : Int) ≤ (↑x_4 : Int) ∧ (↑x_4 : Int) < (↑(List.length (allF (Int.toNat (sumAb (List.getD (Prod.snd s) (Int.toNat n) (List.replicate
  (4 : Nat) (0 : Int))) x_2)))) : Int)) ∧ (0 : Nat) + Int.toNat (↑x_4 : Int) < List.length (allF (Int.toNat (sumAb (List.getD (Prod.snd s) (Int.toNat n) (List.replicate (4 : Nat) (0 : Int))) x_2)))) ∧ ∃ (y : Nat), ((0 :
  Nat) = (0 : Nat) ∧ (0 : Nat) = (0 : Nat) ∧ n = n ∧ (0 : Nat) = (0 : Nat) ∧ (0 : Nat) = (0 : Nat) ∧ (0 : Nat) = (0 : Nat) ∧ List.length (allF (Int.toNat (sumAb (List.getD (Prod.snd s) (Int.toNat n) (List.replicate (4 :
  Nat) (0 : Int))) x_2))) = List.length (allF (Int.toNat (sumAb (List.getD (Prod.snd s) (Int.toNat n) (List.replicate (4 : Nat) (0 : Int))) x_2))) ∧ n_1 = n_1 ∧ true = Prod.fst (refTo (List.getD (Prod.snd s) (Int.toNat n)
  (List.replicate (4 : Nat) (0 : Int))) (List.append (List.take x (negC (chipsK k f))) (List.drop x (chipsK k f))) (gainF (List.getD (Prod.fst s) (Int.toNat n) (0 : Int))) n_1 (allF (Int.toNat (sumAb (List.getD (Prod.snd s)
  (Int.toNat n) (List.replicate (4 : Nat) (0 : Int))) x_2))) y) ∧ farM (List.getD (Prod.snd s) (Int.toNat n) (List.replicate (4 : Nat) (0 : Int))) (List.getD (allF (Int.toNat (sumAb (List.getD (Prod.snd s) (Int.toNat n)
  (List.replicate (4 : Nat) (0 : Int))) x_2))) ((0 : Nat) + Int.toNat (↑x_4 : Int)) (List.replicate (4 : Nat) (0 : Int))) (4 : Nat) = Prod.fst (Prod.snd (refTo (List.getD (Prod.snd s) (Int.toNat n) (List.replicate (4 : Nat)
  (0 : Int))) (List.append (List.take x (negC (chipsK k f))) (List.drop x (chipsK k f))) (gainF (List.getD (Prod.fst s) (Int.toNat n) (0 : Int))) n_1 (allF (Int.toNat (sumAb (List.getD (Prod.snd s) (Int.toNat n)
  (List.replicate (4 : Nat) (0 : Int))) x_2))) y)) ∧ (0 : Nat) = (0 : Nat) ∧ IntKind.wrap IntKind.i64 ((↑x_4 : Int) + (1 : Int)) = (↑y : Int) ∧ Prod.fst s = Prod.fst s ∧ Prod.snd s = Prod.snd s ∧ false = false ∧
  List.replicate (8 : Nat) (0 : Int) = List.replicate (8 : Nat) (0 : Int) ∧ List.replicate (8 : Nat) (List.replicate (4 : Nat) (0 : Int)) = List.replicate (8 : Nat) (List.replicate (4 : Nat) (0 : Int)) ∧ false = false ∧
  List.append (List.take x (negC (chipsK k f))) (List.drop x (chipsK k f)) = List.take x (negC (chipsK k f)) ++ List.drop x (chipsK k f) ∧ false = false ∧ List.getD (Prod.snd s) (Int.toNat n) (List.replicate (4 : Nat) (0 :
  Int)) = List.getD (Prod.snd s) (Int.toNat n) (List.replicate (4 : Nat) (0 : Int)) ∧ false = false ∧ allF (Int.toNat (sumAb (List.getD (Prod.snd s) (Int.toNat n) (List.replicate (4 : Nat) (0 : Int))) x_2)) = allF
  (Int.toNat (sumAb (List.getD (Prod.snd s) (Int.toNat n) (List.replicate (4 : Nat) (0 : Int))) x_2)) ∧ false = false ∧ List.getD (allF (Int.toNat (sumAb (List.getD (Prod.snd s) (Int.toNat n) (List.replicate (4 : Nat) (0 :
  Int))) x_2))) ((0 : Nat) + Int.toNat (↑x_4 : Int)) (List.replicate (4 : Nat) (0 : Int)) = Prod.snd (Prod.snd (refTo (List.getD (Prod.snd s) (Int.toNat n) (List.replicate (4 : Nat) (0 : Int))) (List.append (List.take x
  (negC (chipsK k f))) (List.drop x (chipsK k f))) (gainF (List.getD (Prod.fst s) (Int.toNat n) (0 : Int))) n_1 (allF (Int.toNat (sumAb (List.getD (Prod.snd s) (Int.toNat n) (List.replicate (4 : Nat) (0 : Int))) x_2))) y))
  ∧ false = false) ∧ y ≤ List.length (allF (Int.toNat (sumAb (List.getD (Prod.snd s) (Int.toNat n) (List.replicate (4 : Nat) (0 : Int))) x_2))) ∧ List.length (allF (Int.toNat (sumAb (List.getD (Prod.snd s) (Int.toNat n)
  (List.replicate (4 : Nat) (0 : Int))) x_2))) - y < List.length (allF (Int.toNat (sumAb (List.getD (Prod.snd s) (Int.toNat n) (List.replicate (4 : Nat) (0 : Int))) x_2))) - x_4 else ∃ (y : Nat), ((0 : Nat) = (0 : Nat) ∧ (0
  : Nat) = (0 : Nat) ∧ n = n ∧ (0 : Nat) = (0 : Nat) ∧ (0 : Nat) = (0 : Nat) ∧ (0 : Nat) = (0 : Nat) ∧ List.length (allF (Int.toNat (sumAb (List.getD (Prod.snd s) (Int.toNat n) (List.replicate (4 : Nat) (0 : Int))) x_2))) =
  List.length (allF (Int.toNat (sumAb (List.getD (Prod.snd s) (Int.toNat n) (List.replicate (4 : Nat) (0 : Int))) x_2))) ∧ n_1 = n_1 ∧ Prod.fst (refTo (List.getD (Prod.snd s) (Int.toNat n) (List.replicate (4 : Nat) (0 :
  Int))) (List.append (List.take x (negC (chipsK k f))) (List.drop x (chipsK k f))) (gainF (List.getD (Prod.fst s) (Int.toNat n) (0 : Int))) n_1 (allF (Int.toNat (sumAb (List.getD (Prod.snd s) (Int.toNat n) (List.replicate
  (4 : Nat) (0 : Int))) x_2))) x_4) = Prod.fst (refTo (List.getD (Prod.snd s) (Int.toNat n) (List.replicate (4 : Nat) (0 : Int))) (List.append (List.take x (negC (chipsK k f))) (List.drop x (chipsK k f))) (gainF (List.getD
  (Prod.fst s) (Int.toNat n) (0 : Int))) n_1 (allF (Int.toNat (sumAb (List.getD (Prod.snd s) (Int.toNat n) (List.replicate (4 : Nat) (0 : Int))) x_2))) y) ∧ Prod.fst (Prod.snd (refTo (List.getD (Prod.snd s) (Int.toNat n)
  (List.replicate (4 : Nat) (0 : Int))) (List.append (List.take x (negC (chipsK k f))) (List.drop x (chipsK k f))) (gainF (List.getD (Prod.fst s) (Int.toNat n) (0 : Int))) n_1 (allF (Int.toNat (sumAb (List.getD (Prod.snd s)
  (Int.toNat n) (List.replicate (4 : Nat) (0 : Int))) x_2))) x_4)) = Prod.fst (Prod.snd (refTo (List.getD (Prod.snd s) (Int.toNat n) (List.replicate (4 : Nat) (0 : Int))) (List.append (List.take x (negC (chipsK k f)))
  (List.drop x (chipsK k f))) (gainF (List.getD (Prod.fst s) (Int.toNat n) (0 : Int))) n_1 (allF (Int.toNat (sumAb (List.getD (Prod.snd s) (Int.toNat n) (List.replicate (4 : Nat) (0 : Int))) x_2))) y)) ∧ (0 : Nat) = (0 :
  Nat) ∧ IntKind.wrap IntKind.i64 ((↑x_4 : Int) + (1 : Int)) = (↑y : Int) ∧ Prod.fst s = Prod.fst s ∧ Prod.snd s = Prod.snd s ∧ false = false ∧ List.replicate (8 : Nat) (0 : Int) = List.replicate (8 : Nat) (0 : Int) ∧
  List.replicate (8 : Nat) (List.replicate (4 : Nat) (0 : Int)) = List.replicate (8 : Nat) (List.replicate (4 : Nat) (0 : Int)) ∧ false = false ∧ List.append (List.take x (negC (chipsK k f))) (List.drop x (chipsK k f)) =
  List.take x (negC (chipsK k f)) ++ List.drop x (chipsK k f) ∧ false = false ∧ List.getD (Prod.snd s) (Int.toNat n) (List.replicate (4 : Nat) (0 : Int)) = List.getD (Prod.snd s) (Int.toNat n) (List.replicate (4 : Nat) (0 :
  Int)) ∧ false = false ∧ allF (Int.toNat (sumAb (List.getD (Prod.snd s) (Int.toNat n) (List.replicate (4 : Nat) (0 : Int))) x_2)) = allF (Int.toNat (sumAb (List.getD (Prod.snd s) (Int.toNat n) (List.replicate (4 : Nat) (0
  : Int))) x_2)) ∧ false = false ∧ Prod.snd (Prod.snd (refTo (List.getD (Prod.snd s) (Int.toNat n) (List.replicate (4 : Nat) (0 : Int))) (List.append (List.take x (negC (chipsK k f))) (List.drop x (chipsK k f))) (gainF
  (List.getD (Prod.fst s) (Int.toNat n) (0 : Int))) n_1 (allF (Int.toNat (sumAb (List.getD (Prod.snd s) (Int.toNat n) (List.replicate (4 : Nat) (0 : Int))) x_2))) x_4)) = Prod.snd (Prod.snd (refTo (List.getD (Prod.snd s)
  (Int.toNat n) (List.replicate (4 : Nat) (0 : Int))) (List.append (List.take x (negC (chipsK k f))) (List.drop x (chipsK k f))) (gainF (List.getD (Prod.fst s) (Int.toNat n) (0 : Int))) n_1 (allF (Int.toNat (sumAb
  (List.getD (Prod.snd s) (Int.toNat n) (List.replicate (4 : Nat) (0 : Int))) x_2))) y)) ∧ false = false) ∧ y ≤ List.length (allF (Int.toNat (sumAb (List.getD (Prod.snd s) (Int.toNat n) (List.replicate (4 : Nat) (0 : Int)))
  x_2))) ∧ List.length (allF (Int.toNat (sumAb (List.getD (Prod.snd s) (Int.toNat n) (List.replicate (4 : Nat) (0 : Int))) x_2))) - y < List.length (allF (Int.toNat (sumAb (List.getD (Prod.snd s) (Int.toNat n)
  (List.replicate (4 : Nat) (0 : Int))) x_2))) - x_4 else ∀ (b : Bool), false = b → ∀ (b_1 : Bool), (!Prod.fst (refTo (List.getD (Prod.snd s) (Int.toNat n) (List.replicate (4 : Nat) (0 : Int))) (List.append (List.take x
  (negC (chipsK k f))) (List.drop x (chipsK k f))) (gainF (List.getD (Prod.fst s) (Int.toNat n) (0 : Int))) n_1 (allF (Int.toNat (sumAb (List.getD (Prod.snd s) (Int.toNat n) (List.replicate (4 : Nat) (0 : Int))) x_2)))
  x_4)) = b_1 → (((0 : Int) ≤ (↑x_4 : Int) ∧ (↑x_4 : Int) < (↑(List.length (allF (Int.toNat (sumAb (List.getD (Prod.snd s) (Int.toNat n) (List.replicate (4 : Nat) (0 : Int))) x_2)))) : Int)) ∧ (0 : Nat) + Int.toNat (↑x_4 :
  Int) < List.length (allF (Int.toNat (sumAb (List.getD (Prod.snd s) (Int.toNat n) (List.replicate (4 : Nat) (0 : Int))) x_2))) ∧ (smallV (List.getD (allF (Int.toNat (sumAb (List.getD (Prod.snd s) (Int.toNat n)
  (List.replicate (4 : Nat) (0 : Int))) x_2))) ((0 : Nat) + Int.toNat (↑x_4 : Int)) (List.replicate (4 : Nat) (0 : Int))) ∧ smallV (List.take x (negC (chipsK k f)) ++ List.drop x (chipsK k f))) ∧ (false = true → false =
  true) ∧ (b = true → b = true) ∧ ((b && b && !b_1) = true → (b && b && !b_1) = true ∧ (b && b && !b_1) = true) ∧ (b = true → (b && b) = true ∧ (b_1 = false → (b && b && !b_1) = true)) ∧ (b = true → b = true)) ∧ bif bif b
  then bif b_1 then true else decide (farM (List.getD (Prod.snd s) (Int.toNat n) (List.replicate (4 : Nat) (0 : Int))) (List.getD (allF (Int.toNat (sumAb (List.getD (Prod.snd s) (Int.toNat n) (List.replicate (4 : Nat) (0 :
  Int))) x_2))) ((0 : Nat) + Int.toNat (↑x_4 : Int)) (List.replicate (4 : Nat) (0 : Int))) (4 : Nat) < Prod.fst (Prod.snd (refTo (List.getD (Prod.snd s) (Int.toNat n) (List.replicate (4 : Nat) (0 : Int))) (List.append
  (List.take x (negC (chipsK k f))) (List.drop x (chipsK k f))) (gainF (List.getD (Prod.fst s) (Int.toNat n) (0 : Int))) n_1 (allF (Int.toNat (sumAb (List.getD (Prod.snd s) (Int.toNat n) (List.replicate (4 : Nat) (0 :
  Int))) x_2))) x_4))) else false then (((0 : Int) ≤ (↑x_4 : Int) ∧ (↑x_4 : Int) < (↑(List.length (allF (Int.toNat (sumAb (List.getD (Prod.snd s) (Int.toNat n) (List.replicate (4 : Nat) (0 : Int))) x_2)))) : Int)) ∧ (0 :
  Nat) + Int.toNat (↑x_4 : Int) < List.length (allF (Int.toNat (sumAb (List.getD (Prod.snd s) (Int.toNat n) (List.replicate (4 : Nat) (0 : Int))) x_2)))) ∧ ∃ (y : Nat), ((0 : Nat) = (0 : Nat) ∧ (0 : Nat) = (0 : Nat) ∧ n = n
  ∧ (0 : Nat) = (0 : Nat) ∧ (0 : Nat) = (0 : Nat) ∧ (0 : Nat) = (0 : Nat) ∧ List.length (allF (Int.toNat (sumAb (List.getD (Prod.snd s) (Int.toNat n) (List.replicate (4 : Nat) (0 : Int))) x_2))) = List.length (allF
  (Int.toNat (sumAb (List.getD (Prod.snd s) (Int.toNat n) (List.replicate (4 : Nat) (0 : Int))) x_2))) ∧ n_1 = n_1 ∧ true = Prod.fst (refTo (List.getD (Prod.snd s) (Int.toNat n) (List.replicate (4 : Nat) (0 : Int)))
  (List.append (List.take x (negC (chipsK k f))) (List.drop x (chipsK k f))) (gainF (List.getD (Prod.fst s) (Int.toNat n) (0 : Int))) n_1 (allF (Int.toNat (sumAb (List.getD (Prod.snd s) (Int.toNat n) (List.replicate (4 :
  Nat) (0 : Int))) x_2))) y) ∧ farM (List.getD (Prod.snd s) (Int.toNat n) (List.replicate (4 : Nat) (0 : Int))) (List.getD (allF (Int.toNat (sumAb (List.getD (Prod.snd s) (Int.toNat n) (List.replicate (4 : Nat) (0 : Int)))
  x_2))) ((0 : Nat) + Int.toNat (↑x_4 : Int)) (List.replicate (4 : Nat) (0 : Int))) (4 : Nat) = Prod.fst (Prod.snd (refTo (List.getD (Prod.snd s) (Int.toNat n) (List.replicate (4 : Nat) (0 : Int))) (List.append (List.take x
  (negC (chipsK k f))) (List.drop x (chipsK k f))) (gainF (List.getD (Prod.fst s) (Int.toNat n) (0 : Int))) n_1 (allF (Int.toNat (sumAb (List.getD (Prod.snd s) (Int.toNat n) (List.replicate (4 : Nat) (0 : Int))) x_2))) y))
  ∧ (0 : Nat) = (0 : Nat) ∧ IntKind.wrap IntKind.i64 ((↑x_4 : Int) + (1 : Int)) = (↑y : Int) ∧ Prod.fst s = Prod.fst s ∧ Prod.snd s = Prod.snd s ∧ false = false ∧ List.replicate (8 : Nat) (0 : Int) = List.replicate (8 :
  Nat) (0 : Int) ∧ List.replicate (8 : Nat) (List.replicate (4 : Nat) (0 : Int)) = List.replicate (8 : Nat) (List.replicate (4 : Nat) (0 : Int)) ∧ false = false ∧ List.append (List.take x (negC (chipsK k f))) (List.drop x
  (chipsK k f)) = List.take x (negC (chipsK k f)) ++ List.drop x (chipsK k f) ∧ false = false ∧ List.getD (Prod.snd s) (Int.toNat n) (List.replicate (4 : Nat) (0 : Int)) = List.getD (Prod.snd s) (Int.toNat n)
  (List.replicate (4 : Nat) (0 : Int)) ∧ false = false ∧ allF (Int.toNat (sumAb (List.getD (Prod.snd s) (Int.toNat n) (List.replicate (4 : Nat) (0 : Int))) x_2)) = allF (Int.toNat (sumAb (List.getD (Prod.snd s) (Int.toNat
  n) (List.replicate (4 : Nat) (0 : Int))) x_2)) ∧ false = false ∧ List.getD (allF (Int.toNat (sumAb (List.getD (Prod.snd s) (Int.toNat n) (List.replicate (4 : Nat) (0 : Int))) x_2))) ((0 : Nat) + Int.toNat (↑x_4 : Int))
  (List.replicate (4 : Nat) (0 : Int)) = Prod.snd (Prod.snd (refTo (List.getD (Prod.snd s) (Int.toNat n) (List.replicate (4 : Nat) (0 : Int))) (List.append (List.take x (negC (chipsK k f))) (List.drop x (chipsK k f)))
  (gainF (List.getD (Prod.fst s) (Int.toNat n) (0 : Int))) n_1 (allF (Int.toNat (sumAb (List.getD (Prod.snd s) (Int.toNat n) (List.replicate (4 : Nat) (0 : Int))) x_2))) y)) ∧ false = false) ∧ y ≤ List.length (allF
  (Int.toNat (sumAb (List.getD (Prod.snd s) (Int.toNat n) (List.replicate (4 : Nat) (0 : Int))) x_2))) ∧ List.length (allF (Int.toNat (sumAb (List.getD (Prod.snd s) (Int.toNat n) (List.replicate (4 : Nat) (0 : Int))) x_2)))
  - y < List.length (allF (Int.toNat (sumAb (List.getD (Prod.snd s) (Int.toNat n) (List.replicate (4 : Nat) (0 : Int))) x_2))) - x_4 else ∃ (y : Nat), ((0 : Nat) = (0 : Nat) ∧ (0 : Nat) = (0 : Nat) ∧ n = n ∧ (0 : Nat) = (0
  : Nat) ∧ (0 : Nat) = (0 : Nat) ∧ (0 : Nat) = (0 : Nat) ∧ List.length (allF (Int.toNat (sumAb (List.getD (Prod.snd s) (Int.toNat n) (List.replicate (4 : Nat) (0 : Int))) x_2))) = List.length (allF (Int.toNat (sumAb
  (List.getD (Prod.snd s) (Int.toNat n) (List.replicate (4 : Nat) (0 : Int))) x_2))) ∧ n_1 = n_1 ∧ Prod.fst (refTo (List.getD (Prod.snd s) (Int.toNat n) (List.replicate (4 : Nat) (0 : Int))) (List.append (List.take x (negC
  (chipsK k f))) (List.drop x (chipsK k f))) (gainF (List.getD (Prod.fst s) (Int.toNat n) (0 : Int))) n_1 (allF (Int.toNat (sumAb (List.getD (Prod.snd s) (Int.toNat n) (List.replicate (4 : Nat) (0 : Int))) x_2))) x_4) =
  Prod.fst (refTo (List.getD (Prod.snd s) (Int.toNat n) (List.replicate (4 : Nat) (0 : Int))) (List.append (List.take x (negC (chipsK k f))) (List.drop x (chipsK k f))) (gainF (List.getD (Prod.fst s) (Int.toNat n) (0 :
  Int))) n_1 (allF (Int.toNat (sumAb (List.getD (Prod.snd s) (Int.toNat n) (List.replicate (4 : Nat) (0 : Int))) x_2))) y) ∧ Prod.fst (Prod.snd (refTo (List.getD (Prod.snd s) (Int.toNat n) (List.replicate (4 : Nat) (0 :
  Int))) (List.append (List.take x (negC (chipsK k f))) (List.drop x (chipsK k f))) (gainF (List.getD (Prod.fst s) (Int.toNat n) (0 : Int))) n_1 (allF (Int.toNat (sumAb (List.getD (Prod.snd s) (Int.toNat n) (List.replicate
  (4 : Nat) (0 : Int))) x_2))) x_4)) = Prod.fst (Prod.snd (refTo (List.getD (Prod.snd s) (Int.toNat n) (List.replicate (4 : Nat) (0 : Int))) (List.append (List.take x (negC (chipsK k f))) (List.drop x (chipsK k f))) (gainF
  (List.getD (Prod.fst s) (Int.toNat n) (0 : Int))) n_1 (allF (Int.toNat (sumAb (List.getD (Prod.snd s) (Int.toNat n) (List.replicate (4 : Nat) (0 : Int))) x_2))) y)) ∧ (0 : Nat) = (0 : Nat) ∧ IntKind.wrap IntKind.i64
  ((↑x_4 : Int) + (1 : Int)) = (↑y : Int) ∧ Prod.fst s = Prod.fst s ∧ Prod.snd s = Prod.snd s ∧ false = false ∧ List.replicate (8 : Nat) (0 : Int) = List.replicate (8 : Nat) (0 : Int) ∧ List.replicate (8 : Nat)
  (List.replicate (4 : Nat) (0 : Int)) = List.replicate (8 : Nat) (List.replicate (4 : Nat) (0 : Int)) ∧ false = false ∧ List.append (List.take x (negC (chipsK k f))) (List.drop x (chipsK k f)) = List.take x (negC (chipsK k
  f)) ++ List.drop x (chipsK k f) ∧ false = false ∧ List.getD (Prod.snd s) (Int.toNat n) (List.replicate (4 : Nat) (0 : Int)) = List.getD (Prod.snd s) (Int.toNat n) (List.replicate (4 : Nat) (0 : Int)) ∧ false = false ∧
  allF (Int.toNat (sumAb (List.getD (Prod.snd s) (Int.toNat n) (List.replicate (4 : Nat) (0 : Int))) x_2)) = allF (Int.toNat (sumAb (List.getD (Prod.snd s) (Int.toNat n) (List.replicate (4 : Nat) (0 : Int))) x_2)) ∧ false =
  false ∧ Prod.snd (Prod.snd (refTo (List.getD (Prod.snd s) (Int.toNat n) (List.replicate (4 : Nat) (0 : Int))) (List.append (List.take x (negC (chipsK k f))) (List.drop x (chipsK k f))) (gainF (List.getD (Prod.fst s)
  (Int.toNat n) (0 : Int))) n_1 (allF (Int.toNat (sumAb (List.getD (Prod.snd s) (Int.toNat n) (List.replicate (4 : Nat) (0 : Int))) x_2))) x_4)) = Prod.snd (Prod.snd (refTo (List.getD (Prod.snd s) (Int.toNat n)
  (List.replicate (4 : Nat) (0 : Int))) (List.append (List.take x (negC (chipsK k f))) (List.drop x (chipsK k f))) (gainF (List.getD (Prod.fst s) (Int.toNat n) (0 : Int))) n_1 (allF (Int.toNat (sumAb (List.getD (Prod.snd s)
  (Int.toNat n) (List.replicate (4 : Nat) (0 : Int))) x_2))) y)) ∧ false = false) ∧ y ≤ List.length (allF (Int.toNat (sumAb (List.getD (Prod.snd s) (Int.toNat n) (List.replicate (4 : Nat) (0 : Int))) x_2))) ∧ List.length
  (allF (Int.toNat (sumAb (List.getD (Prod.snd s) (Int.toNat n) (List.replicate (4 : Nat) (0 : Int))) x_2))) - y < List.length (allF (Int.toNat (sumAb (List.getD (Prod.snd s) (Int.toNat n) (List.replicate (4 : Nat) (0 :
  Int))) x_2))) - x_4 else (((0 : Int) ≤ n ∧ n < (↑(8 : Nat) : Int)) ∧ Int.toNat n < (8 : Nat)) ∧ Prod.fst s = Prod.fst (Prod.fst (refM k f bit s)) ∧ List.set (Prod.snd s) (Int.toNat n) (Prod.snd (Prod.snd (refTo (List.getD
  (Prod.snd s) (Int.toNat n) (List.replicate (4 : Nat) (0 : Int))) (List.append (List.take x (negC (chipsK k f))) (List.drop x (chipsK k f))) (gainF (List.getD (Prod.fst s) (Int.toNat n) (0 : Int))) n_1 (allF (Int.toNat
  (sumAb (List.getD (Prod.snd s) (Int.toNat n) (List.replicate (4 : Nat) (0 : Int))) x_2))) x_4))) = Prod.snd (Prod.fst (refM k f bit s)) ∧ Prod.fst (refTo (List.getD (Prod.snd s) (Int.toNat n) (List.replicate (4 : Nat) (0
  : Int))) (List.append (List.take x (negC (chipsK k f))) (List.drop x (chipsK k f))) (gainF (List.getD (Prod.fst s) (Int.toNat n) (0 : Int))) n_1 (allF (Int.toNat (sumAb (List.getD (Prod.snd s) (Int.toNat n)
  (List.replicate (4 : Nat) (0 : Int))) x_2))) x_4) = Prod.snd (refM k f bit s) else (((0 : Int) ≤ n ∧ n < (↑(8 : Nat) : Int)) ∧ Int.toNat n < (8 : Nat)) ∧ (smallV (List.getD (Prod.snd s) (Int.toNat n) (List.replicate (4 :
  Nat) (0 : Int))) ∧ smallV (chipsK k f)) ∧ bif decide ((2 : Int) ≤ dotZ (List.getD (Prod.snd s) (Int.toNat n) (List.replicate (4 : Nat) (0 : Int))) (chipsK k f) (4 : Nat)) then Prod.fst s = Prod.fst (Prod.fst (refM k f bit
  s)) ∧ Prod.snd s = Prod.snd (Prod.fst (refM k f bit s)) ∧ true = Prod.snd (refM k f bit s) else ∃ (x : Nat), (((0 : Nat) = (0 : Nat) ∧ (0 : Nat) = (0 : Nat) ∧ n = n ∧ (0 : Nat) = (0 : Nat) ∧ (0 : Nat) = (0 : Nat) ∧ (0 :
  Int) = sumAb (List.getD (Prod.snd s) (Int.toNat n) (List.replicate (4 : Nat) (0 : Int))) x ∧ (0 : Int) = (↑x : Int) ∧ Prod.fst s = Prod.fst s ∧ Prod.snd s = Prod.snd s ∧ false = false ∧ List.replicate (8 : Nat) (0 : Int)
  = List.replicate (8 : Nat) (0 : Int) ∧ List.replicate (8 : Nat) (List.replicate (4 : Nat) (0 : Int)) = List.replicate (8 : Nat) (List.replicate (4 : Nat) (0 : Int)) ∧ false = false ∧ chipsK k f = chipsK k f ∧ false =
  false ∧ List.getD (Prod.snd s) (Int.toNat n) (List.replicate (4 : Nat) (0 : Int)) = List.getD (Prod.snd s) (Int.toNat n) (List.replicate (4 : Nat) (0 : Int)) ∧ false = false) ∧ x ≤ (4 : Nat)) ∧ ∀ (x : Nat), x ≤ (4 : Nat)
  → IntKind.min IntKind.i64 ≤ (↑x : Int) ∧ (↑x : Int) ≤ IntKind.max IntKind.i64 ∧ IntKind.min IntKind.i64 ≤ sumAb (List.getD (Prod.snd s) (Int.toNat n) (List.replicate (4 : Nat) (0 : Int))) x ∧ sumAb (List.getD (Prod.snd s)
  (Int.toNat n) (List.replicate (4 : Nat) (0 : Int))) x ≤ IntKind.max IntKind.i64 → bif decide ((↑x : Int) < (4 : Int)) then (((0 : Int) ≤ (↑x : Int) ∧ (↑x : Int) < (↑(4 : Nat) : Int)) ∧ Int.toNat (↑x : Int) < (4 : Nat)) ∧
  ∃ (y : Nat), ((0 : Nat) = (0 : Nat) ∧ (0 : Nat) = (0 : Nat) ∧ n = n ∧ (0 : Nat) = (0 : Nat) ∧ (0 : Nat) = (0 : Nat) ∧ IntKind.wrap IntKind.i64 (sumAb (List.getD (Prod.snd s) (Int.toNat n) (List.replicate (4 : Nat) (0 :
  Int))) x + szR (List.getD (List.getD (Prod.snd s) (Int.toNat n) (List.replicate (4 : Nat) (0 : Int))) (Int.toNat (↑x : Int)) (0 : Int))) = sumAb (List.getD (Prod.snd s) (Int.toNat n) (List.replicate (4 : Nat) (0 : Int)))
  y ∧ IntKind.wrap IntKind.i64 ((↑x : Int) + (1 : Int)) = (↑y : Int) ∧ Prod.fst s = Prod.fst s ∧ Prod.snd s = Prod.snd s ∧ false = false ∧ List.replicate (8 : Nat) (0 : Int) = List.replicate (8 : Nat) (0 : Int) ∧
  List.replicate (8 : Nat) (List.replicate (4 : Nat) (0 : Int)) = List.replicate (8 : Nat) (List.replicate (4 : Nat) (0 : Int)) ∧ false = false ∧ chipsK k f = chipsK k f ∧ false = false ∧ List.getD (Prod.snd s) (Int.toNat
  n) (List.replicate (4 : Nat) (0 : Int)) = List.getD (Prod.snd s) (Int.toNat n) (List.replicate (4 : Nat) (0 : Int)) ∧ false = false) ∧ y ≤ (4 : Nat) ∧ (4 : Nat) - y < (4 : Nat) - x else ((0 : Int) ≤ sumAb (List.getD
  (Prod.snd s) (Int.toNat n) (List.replicate (4 : Nat) (0 : Int))) x ∧ sumAb (List.getD (Prod.snd s) (Int.toNat n) (List.replicate (4 : Nat) (0 : Int))) x ≤ (12 : Int)) ∧ ∀ (n_1 : Int), budTo (Prod.fst s) n (8 : Nat) = n_1
  → (rightF (Prod.fst s) = true ∧ (0 : Int) ≤ n ∧ n < (8 : Int)) ∧ ∃ (x_1 : Nat), (((0 : Nat) = (0 : Nat) ∧ (0 : Nat) = (0 : Nat) ∧ n = n ∧ (0 : Nat) = (0 : Nat) ∧ (0 : Nat) = (0 : Nat) ∧ (0 : Nat) = (0 : Nat) ∧ List.length
  (allF (Int.toNat (sumAb (List.getD (Prod.snd s) (Int.toNat n) (List.replicate (4 : Nat) (0 : Int))) x))) = List.length (allF (Int.toNat (sumAb (List.getD (Prod.snd s) (Int.toNat n) (List.replicate (4 : Nat) (0 : Int)))
  x))) ∧ n_1 = n_1 ∧ false = Prod.fst (refTo (List.getD (Prod.snd s) (Int.toNat n) (List.replicate (4 : Nat) (0 : Int))) (chipsK k f) (gainF (List.getD (Prod.fst s) (Int.toNat n) (0 : Int))) n_1 (allF (Int.toNat (sumAb
  (List.getD (Prod.snd s) (Int.toNat n) (List.replicate (4 : Nat) (0 : Int))) x))) x_1) ∧ (0 : Int) = Prod.fst (Prod.snd (refTo (List.getD (Prod.snd s) (Int.toNat n) (List.replicate (4 : Nat) (0 : Int))) (chipsK k f) (gainF
  (List.getD (Prod.fst s) (Int.toNat n) (0 : Int))) n_1 (allF (Int.toNat (sumAb (List.getD (Prod.snd s) (Int.toNat n) (List.replicate (4 : Nat) (0 : Int))) x))) x_1)) ∧ (0 : Nat) = (0 : Nat) ∧ (0 : Int) = (↑x_1 : Int) ∧
  Prod.fst s = Prod.fst s ∧ Prod.snd s = Prod.snd s ∧ false = false ∧ List.replicate (8 : Nat) (0 : Int) = List.replicate (8 : Nat) (0 : Int) ∧ List.replicate (8 : Nat) (List.replicate (4 : Nat) (0 : Int)) = List.replicate
  (8 : Nat) (List.replicate (4 : Nat) (0 : Int)) ∧ false = false ∧ chipsK k f = chipsK k f ∧ false = false ∧ List.getD (Prod.snd s) (Int.toNat n) (List.replicate (4 : Nat) (0 : Int)) = List.getD (Prod.snd s) (Int.toNat n)
  (List.replicate (4 : Nat) (0 : Int)) ∧ false = false ∧ allF (Int.toNat (sumAb (List.getD (Prod.snd s) (Int.toNat n) (List.replicate (4 : Nat) (0 : Int))) x)) = allF (Int.toNat (sumAb (List.getD (Prod.snd s) (Int.toNat n)
  (List.replicate (4 : Nat) (0 : Int))) x)) ∧ false = false ∧ List.getD (Prod.snd s) (Int.toNat n) (List.replicate (4 : Nat) (0 : Int)) = Prod.snd (Prod.snd (refTo (List.getD (Prod.snd s) (Int.toNat n) (List.replicate (4 :
  Nat) (0 : Int))) (chipsK k f) (gainF (List.getD (Prod.fst s) (Int.toNat n) (0 : Int))) n_1 (allF (Int.toNat (sumAb (List.getD (Prod.snd s) (Int.toNat n) (List.replicate (4 : Nat) (0 : Int))) x))) x_1)) ∧ false = false) ∧
  x_1 ≤ List.length (allF (Int.toNat (sumAb (List.getD (Prod.snd s) (Int.toNat n) (List.replicate (4 : Nat) (0 : Int))) x)))) ∧ ∀ (x_2 : Nat), x_2 ≤ List.length (allF (Int.toNat (sumAb (List.getD (Prod.snd s) (Int.toNat n)
  (List.replicate (4 : Nat) (0 : Int))) x))) → (IntKind.min IntKind.i64 ≤ (↑x_2 : Int) ∧ (↑x_2 : Int) ≤ IntKind.max IntKind.i64 ∧ IntKind.min IntKind.i64 ≤ Prod.fst (Prod.snd (refTo (List.getD (Prod.snd s) (Int.toNat n)
  (List.replicate (4 : Nat) (0 : Int))) (chipsK k f) (gainF (List.getD (Prod.fst s) (Int.toNat n) (0 : Int))) n_1 (allF (Int.toNat (sumAb (List.getD (Prod.snd s) (Int.toNat n) (List.replicate (4 : Nat) (0 : Int))) x)))
  x_2)) ∧ Prod.fst (Prod.snd (refTo (List.getD (Prod.snd s) (Int.toNat n) (List.replicate (4 : Nat) (0 : Int))) (chipsK k f) (gainF (List.getD (Prod.fst s) (Int.toNat n) (0 : Int))) n_1 (allF (Int.toNat (sumAb (List.getD
  (Prod.snd s) (Int.toNat n) (List.replicate (4 : Nat) (0 : Int))) x))) x_2)) ≤ IntKind.max IntKind.i64 ∧ ∀ (y : List Int), List.Mem y [Prod.snd (Prod.snd (refTo (List.getD (Prod.snd s) (Int.toNat n) (List.replicate (4 :
  Nat) (0 : Int))) (chipsK k f) (gainF (List.getD (Prod.fst s) (Int.toNat n) (0 : Int))) n_1 (allF (Int.toNat (sumAb (List.getD (Prod.snd s) (Int.toNat n) (List.replicate (4 : Nat) (0 : Int))) x))) x_2))] → List.length y =
  (4 : Nat) ∧ ∀ (y_1 : Int), List.Mem y_1 y → IntKind.min IntKind.i64 ≤ y_1 ∧ y_1 ≤ IntKind.max IntKind.i64) → bif decide ((↑x_2 : Int) < (↑(List.length (allF (Int.toNat (sumAb (List.getD (Prod.snd s) (Int.toNat n)
  (List.replicate (4 : Nat) (0 : Int))) x)))) : Int)) then (((0 : Int) ≤ (↑x_2 : Int) ∧ (↑x_2 : Int) < (↑(List.length (allF (Int.toNat (sumAb (List.getD (Prod.snd s) (Int.toNat n) (List.replicate (4 : Nat) (0 : Int))) x))))
  : Int)) ∧ (0 : Nat) + Int.toNat (↑x_2 : Int) < List.length (allF (Int.toNat (sumAb (List.getD (Prod.snd s) (Int.toNat n) (List.replicate (4 : Nat) (0 : Int))) x))) ∧ smallV (List.getD (Prod.snd s) (Int.toNat n)
  (List.replicate (4 : Nat) (0 : Int))) ∧ smallV (List.getD (allF (Int.toNat (sumAb (List.getD (Prod.snd s) (Int.toNat n) (List.replicate (4 : Nat) (0 : Int))) x))) ((0 : Nat) + Int.toNat (↑x_2 : Int)) (List.replicate (4 :
  Nat) (0 : Int)))) ∧ bif decide ((2 : Int) ≤ dotZ (List.getD (allF (Int.toNat (sumAb (List.getD (Prod.snd s) (Int.toNat n) (List.replicate (4 : Nat) (0 : Int))) x))) ((0 : Nat) + Int.toNat (↑x_2 : Int)) (List.replicate (4
  : Nat) (0 : Int))) (chipsK k f) (4 : Nat)) then ∀ (b : Bool), decide (IntKind.wrap IntKind.i64 (farM (List.getD (Prod.snd s) (Int.toNat n) (List.replicate (4 : Nat) (0 : Int))) (List.getD (allF (Int.toNat (sumAb
  (List.getD (Prod.snd s) (Int.toNat n) (List.replicate (4 : Nat) (0 : Int))) x))) ((0 : Nat) + Int.toNat (↑x_2 : Int)) (List.replicate (4 : Nat) (0 : Int))) (4 : Nat) * gainF (List.getD (Prod.fst s) (Int.toNat n) (0 :
  Int))) ≤ n_1) = b → ∀ (b_1 : Bool), (!Prod.fst (refTo (List.getD (Prod.snd s) (Int.toNat n) (List.replicate (4 : Nat) (0 : Int))) (chipsK k f) (gainF (List.getD (Prod.fst s) (Int.toNat n) (0 : Int))) n_1 (allF (Int.toNat
  (sumAb (List.getD (Prod.snd s) (Int.toNat n) (List.replicate (4 : Nat) (0 : Int))) x))) x_2)) = b_1 → (((0 : Int) ≤ (↑x_2 : Int) ∧ (↑x_2 : Int) < (↑(List.length (allF (Int.toNat (sumAb (List.getD (Prod.snd s) (Int.toNat
  n) (List.replicate (4 : Nat) (0 : Int))) x)))) : Int)) ∧ (0 : Nat) + Int.toNat (↑x_2 : Int) < List.length (allF (Int.toNat (sumAb (List.getD (Prod.snd s) (Int.toNat n) (List.replicate (4 : Nat) (0 : Int))) x))) ∧ (smallV
  (List.getD (allF (Int.toNat (sumAb (List.getD (Prod.snd s) (Int.toNat n) (List.replicate (4 : Nat) (0 : Int))) x))) ((0 : Nat) + Int.toNat (↑x_2 : Int)) (List.replicate (4 : Nat) (0 : Int))) ∧ smallV (chipsK k f)) ∧ ((0 :
  Int) ≤ n ∧ n < (↑(8 : Nat) : Int)) ∧ Int.toNat n < (8 : Nat) ∧ ((0 : Int) ≤ List.getD (Prod.fst s) (Int.toNat n) (0 : Int) ∧ List.getD (Prod.fst s) (Int.toNat n) (0 : Int) ≤ (15 : Int)) ∧ (b = true → b = true) ∧ ((b && b
  && !b_1) = true → (b && b && !b_1) = true ∧ (b && b && !b_1) = true) ∧ (b = true → (b && b) = true ∧ (b_1 = false → (b && b && !b_1) = true)) ∧ (b = true → b = true)) ∧ bif bif b then bif b_1 then true else decide (farM
  (List.getD (Prod.snd s) (Int.toNat n) (List.replicate (4 : Nat) (0 : Int))) (List.getD (allF (Int.toNat (sumAb (List.getD (Prod.snd s) (Int.toNat n) (List.replicate (4 : Nat) (0 : Int))) x))) ((0 : Nat) + Int.toNat (↑x_2
  : Int)) (List.replicate (4 : Nat) (0 : Int))) (4 : Nat) < Prod.fst (Prod.snd (refTo (List.getD (Prod.snd s) (Int.toNat n) (List.replicate (4 : Nat) (0 : Int))) (chipsK k f) (gainF (List.getD (Prod.fst s) (Int.toNat n) (0
  : Int))) n_1 (allF (Int.toNat (sumAb (List.getD (Prod.snd s) (Int.toNat n) (List.replicate (4 : Nat) (0 : Int))) x))) x_2))) else false then (((0 : Int) ≤ (↑x_2 : Int) ∧ (↑x_2 : Int) < (↑(List.length (allF (Int.toNat
  (sumAb (List.getD (Prod.snd s) (Int.toNat n) (List.replicate (4 : Nat) (0 : Int))) x)))) : Int)) ∧ (0 : Nat) + Int.toNat (↑x_2 : Int) < List.length (allF (Int.toNat (sumAb (List.getD (Prod.snd s) (Int.toNat n)
  (List.replicate (4 : Nat) (0 : Int))) x)))) ∧ ∃ (y : Nat), ((0 : Nat) = (0 : Nat) ∧ (0 : Nat) = (0 : Nat) ∧ n = n ∧ (0 : Nat) = (0 : Nat) ∧ (0 : Nat) = (0 : Nat) ∧ (0 : Nat) = (0 : Nat) ∧ List.length (allF (Int.toNat
  (sumAb (List.getD (Prod.snd s) (Int.toNat n) (List.replicate (4 : Nat) (0 : Int))) x))) = List.length (allF (Int.toNat (sumAb (List.getD (Prod.snd s) (Int.toNat n) (List.replicate (4 : Nat) (0 : Int))) x))) ∧ n_1 = n_1 ∧
  true = Prod.fst (refTo (List.getD (Prod.snd s) (Int.toNat n) (List.replicate (4 : Nat) (0 : Int))) (chipsK k f) (gainF (List.getD (Prod.fst s) (Int.toNat n) (0 : Int))) n_1 (allF (Int.toNat (sumAb (List.getD (Prod.snd s)
  (Int.toNat n) (List.replicate (4 : Nat) (0 : Int))) x))) y) ∧ farM (List.getD (Prod.snd s) (Int.toNat n) (List.replicate (4 : Nat) (0 : Int))) (List.getD (allF (Int.toNat (sumAb (List.getD (Prod.snd s) (Int.toNat n)
  (List.replicate (4 : Nat) (0 : Int))) x))) ((0 : Nat) + Int.toNat (↑x_2 : Int)) (List.replicate (4 : Nat) (0 : Int))) (4 : Nat) = Prod.fst (Prod.snd (refTo (List.getD (Prod.snd s) (Int.toNat n) (List.replicate (4 : Nat)
  (0 : Int))) (chipsK k f) (gainF (List.getD (Prod.fst s) (Int.toNat n) (0 : Int))) n_1 (allF (Int.toNat (sumAb (List.getD (Prod.snd s) (Int.toNat n) (List.replicate (4 : Nat) (0 : Int))) x))) y)) ∧ (0 : Nat) = (0 : Nat) ∧
  IntKind.wrap IntKind.i64 ((↑x_2 : Int) + (1 : Int)) = (↑y : Int) ∧ Prod.fst s = Prod.fst s ∧ Prod.snd s = Prod.snd s ∧ false = false ∧ List.replicate (8 : Nat) (0 : Int) = List.replicate (8 : Nat) (0 : Int) ∧
  List.replicate (8 : Nat) (List.replicate (4 : Nat) (0 : Int)) = List.replicate (8 : Nat) (List.replicate (4 : Nat) (0 : Int)) ∧ false = false ∧ chipsK k f = chipsK k f ∧ false = false ∧ List.getD (Prod.snd s) (Int.toNat
  n) (List.replicate (4 : Nat) (0 : Int)) = List.getD (Prod.snd s) (Int.toNat n) (List.replicate (4 : Nat) (0 : Int)) ∧ false = false ∧ allF (Int.toNat (sumAb (List.getD (Prod.snd s) (Int.toNat n) (List.replicate (4 : Nat)
  (0 : Int))) x)) = allF (Int.toNat (sumAb (List.getD (Prod.snd s) (Int.toNat n) (List.replicate (4 : Nat) (0 : Int))) x)) ∧ false = false ∧ List.getD (allF (Int.toNat (sumAb (List.getD (Prod.snd s) (Int.toNat n)
  (List.replicate (4 : Nat) (0 : Int))) x))) ((0 : Nat) + Int.toNat (↑x_2 : Int)) (List.replicate (4 : Nat) (0 : Int)) = Prod.snd (Prod.snd (refTo (List.getD (Prod.snd s) (Int.toNat n) (List.replicate (4 : Nat) (0 : Int)))
  (chipsK k f) (gainF (List.getD (Prod.fst s) (Int.toNat n) (0 : Int))) n_1 (allF (Int.toNat (sumAb (List.getD (Prod.snd s) (Int.toNat n) (List.replicate (4 : Nat) (0 : Int))) x))) y)) ∧ false = false) ∧ y ≤ List.length
  (allF (Int.toNat (sumAb (List.getD (Prod.snd s) (Int.toNat n) (List.replicate (4 : Nat) (0 : Int))) x))) ∧ List.length (allF (Int.toNat (sumAb (List.getD (Prod.snd s) (Int.toNat n) (List.replicate (4 : Nat) (0 : Int)))
  x))) - y < List.length (allF (Int.toNat (sumAb (List.getD (Prod.snd s) (Int.toNat n) (List.replicate (4 : Nat) (0 : Int))) x))) - x_2 else ∃ (y : Nat), ((0 : Nat) = (0 : Nat) ∧ (0 : Nat) = (0 : Nat) ∧ n = n ∧ (0 : Nat) =
  (0 : Nat) ∧ (0 : Nat) = (0 : Nat) ∧ (0 : Nat) = (0 : Nat) ∧ List.length (allF (Int.toNat (sumAb (List.getD (Prod.snd s) (Int.toNat n) (List.replicate (4 : Nat) (0 : Int))) x))) = List.length (allF (Int.toNat (sumAb
  (List.getD (Prod.snd s) (Int.toNat n) (List.replicate (4 : Nat) (0 : Int))) x))) ∧ n_1 = n_1 ∧ Prod.fst (refTo (List.getD (Prod.snd s) (Int.toNat n) (List.replicate (4 : Nat) (0 : Int))) (chipsK k f) (gainF (List.getD
  (Prod.fst s) (Int.toNat n) (0 : Int))) n_1 (allF (Int.toNat (sumAb (List.getD (Prod.snd s) (Int.toNat n) (List.replicate (4 : Nat) (0 : Int))) x))) x_2) = Prod.fst (refTo (List.getD (Prod.snd s) (Int.toNat n)
  (List.replicate (4 : Nat) (0 : Int))) (chipsK k f) (gainF (List.getD (Prod.fst s) (Int.toNat n) (0 : Int))) n_1 (allF (Int.toNat (sumAb (List.getD (Prod.snd s) (Int.toNat n) (List.replicate (4 : Nat) (0 : Int))) x))) y) ∧
  Prod.fst (Prod.snd (refTo (List.getD (Prod.snd s) (Int.toNat n) (List.replicate (4 : Nat) (0 : Int))) (chipsK k f) (gainF (List.getD (Prod.fst s) (Int.toNat n) (0 : Int))) n_1 (allF (Int.toNat (sumAb (List.getD (Prod.snd
  s) (Int.toNat n) (List.replicate (4 : Nat) (0 : Int))) x))) x_2)) = Prod.fst (Prod.snd (refTo (List.getD (Prod.snd s) (Int.toNat n) (List.replicate (4 : Nat) (0 : Int))) (chipsK k f) (gainF (List.getD (Prod.fst s)
  (Int.toNat n) (0 : Int))) n_1 (allF (Int.toNat (sumAb (List.getD (Prod.snd s) (Int.toNat n) (List.replicate (4 : Nat) (0 : Int))) x))) y)) ∧ (0 : Nat) = (0 : Nat) ∧ IntKind.wrap IntKind.i64 ((↑x_2 : Int) + (1 : Int)) =
  (↑y : Int) ∧ Prod.fst s = Prod.fst s ∧ Prod.snd s = Prod.snd s ∧ false = false ∧ List.replicate (8 : Nat) (0 : Int) = List.replicate (8 : Nat) (0 : Int) ∧ List.replicate (8 : Nat) (List.replicate (4 : Nat) (0 : Int)) =
  List.replicate (8 : Nat) (List.replicate (4 : Nat) (0 : Int)) ∧ false = false ∧ chipsK k f = chipsK k f ∧ false = false ∧ List.getD (Prod.snd s) (Int.toNat n) (List.replicate (4 : Nat) (0 : Int)) = List.getD (Prod.snd s)
  (Int.toNat n) (List.replicate (4 : Nat) (0 : Int)) ∧ false = false ∧ allF (Int.toNat (sumAb (List.getD (Prod.snd s) (Int.toNat n) (List.replicate (4 : Nat) (0 : Int))) x)) = allF (Int.toNat (sumAb (List.getD (Prod.snd s)
  (Int.toNat n) (List.replicate (4 : Nat) (0 : Int))) x)) ∧ false = false ∧ Prod.snd (Prod.snd (refTo (List.getD (Prod.snd s) (Int.toNat n) (List.replicate (4 : Nat) (0 : Int))) (chipsK k f) (gainF (List.getD (Prod.fst s)
  (Int.toNat n) (0 : Int))) n_1 (allF (Int.toNat (sumAb (List.getD (Prod.snd s) (Int.toNat n) (List.replicate (4 : Nat) (0 : Int))) x))) x_2)) = Prod.snd (Prod.snd (refTo (List.getD (Prod.snd s) (Int.toNat n)
  (List.replicate (4 : Nat) (0 : Int))) (chipsK k f) (gainF (List.getD (Prod.fst s) (Int.toNat n) (0 : Int))) n_1 (allF (Int.toNat (sumAb (List.getD (Prod.snd s) (Int.toNat n) (List.replicate (4 : Nat) (0 : Int))) x))) y))
  ∧ false = false) ∧ y ≤ List.length (allF (Int.toNat (sumAb (List.getD (Prod.snd s) (Int.toNat n) (List.replicate (4 : Nat) (0 : Int))) x))) ∧ List.length (allF (Int.toNat (sumAb (List.getD (Prod.snd s) (Int.toNat n)
  (List.replicate (4 : Nat) (0 : Int))) x))) - y < List.length (allF (Int.toNat (sumAb (List.getD (Prod.snd s) (Int.toNat n) (List.replicate (4 : Nat) (0 : Int))) x))) - x_2 else ∀ (b : Bool), false = b → ∀ (b_1 : Bool),
  (!Prod.fst (refTo (List.getD (Prod.snd s) (Int.toNat n) (List.replicate (4 : Nat) (0 : Int))) (chipsK k f) (gainF (List.getD (Prod.fst s) (Int.toNat n) (0 : Int))) n_1 (allF (Int.toNat (sumAb (List.getD (Prod.snd s)
  (Int.toNat n) (List.replicate (4 : Nat) (0 : Int))) x))) x_2)) = b_1 → (((0 : Int) ≤ (↑x_2 : Int) ∧ (↑x_2 : Int) < (↑(List.length (allF (Int.toNat (sumAb (List.getD (Prod.snd s) (Int.toNat n) (List.replicate (4 : Nat) (0
  : Int))) x)))) : Int)) ∧ (0 : Nat) + Int.toNat (↑x_2 : Int) < List.length (allF (Int.toNat (sumAb (List.getD (Prod.snd s) (Int.toNat n) (List.replicate (4 : Nat) (0 : Int))) x))) ∧ (smallV (List.getD (allF (Int.toNat
  (sumAb (List.getD (Prod.snd s) (Int.toNat n) (List.replicate (4 : Nat) (0 : Int))) x))) ((0 : Nat) + Int.toNat (↑x_2 : Int)) (List.replicate (4 : Nat) (0 : Int))) ∧ smallV (chipsK k f)) ∧ (false = true → false = true) ∧
  (b = true → b = true) ∧ ((b && b && !b_1) = true → (b && b && !b_1) = true ∧ (b && b && !b_1) = true) ∧ (b = true → (b && b) = true ∧ (b_1 = false → (b && b && !b_1) = true)) ∧ (b = true → b = true)) ∧ bif bif b then bif
  b_1 then true else decide (farM (List.getD (Prod.snd s) (Int.toNat n) (List.replicate (4 : Nat) (0 : Int))) (List.getD (allF (Int.toNat (sumAb (List.getD (Prod.snd s) (Int.toNat n) (List.replicate (4 : Nat) (0 : Int)))
  x))) ((0 : Nat) + Int.toNat (↑x_2 : Int)) (List.replicate (4 : Nat) (0 : Int))) (4 : Nat) < Prod.fst (Prod.snd (refTo (List.getD (Prod.snd s) (Int.toNat n) (List.replicate (4 : Nat) (0 : Int))) (chipsK k f) (gainF
  (List.getD (Prod.fst s) (Int.toNat n) (0 : Int))) n_1 (allF (Int.toNat (sumAb (List.getD (Prod.snd s) (Int.toNat n) (List.replicate (4 : Nat) (0 : Int))) x))) x_2))) else false then (((0 : Int) ≤ (↑x_2 : Int) ∧ (↑x_2 :
  Int) < (↑(List.length (allF (Int.toNat (sumAb (List.getD (Prod.snd s) (Int.toNat n) (List.replicate (4 : Nat) (0 : Int))) x)))) : Int)) ∧ (0 : Nat) + Int.toNat (↑x_2 : Int) < List.length (allF (Int.toNat (sumAb (List.getD
  (Prod.snd s) (Int.toNat n) (List.replicate (4 : Nat) (0 : Int))) x)))) ∧ ∃ (y : Nat), ((0 : Nat) = (0 : Nat) ∧ (0 : Nat) = (0 : Nat) ∧ n = n ∧ (0 : Nat) = (0 : Nat) ∧ (0 : Nat) = (0 : Nat) ∧ (0 : Nat) = (0 : Nat) ∧
  List.length (allF (Int.toNat (sumAb (List.getD (Prod.snd s) (Int.toNat n) (List.replicate (4 : Nat) (0 : Int))) x))) = List.length (allF (Int.toNat (sumAb (List.getD (Prod.snd s) (Int.toNat n) (List.replicate (4 : Nat) (0
  : Int))) x))) ∧ n_1 = n_1 ∧ true = Prod.fst (refTo (List.getD (Prod.snd s) (Int.toNat n) (List.replicate (4 : Nat) (0 : Int))) (chipsK k f) (gainF (List.getD (Prod.fst s) (Int.toNat n) (0 : Int))) n_1 (allF (Int.toNat
  (sumAb (List.getD (Prod.snd s) (Int.toNat n) (List.replicate (4 : Nat) (0 : Int))) x))) y) ∧ farM (List.getD (Prod.snd s) (Int.toNat n) (List.replicate (4 : Nat) (0 : Int))) (List.getD (allF (Int.toNat (sumAb (List.getD
  (Prod.snd s) (Int.toNat n) (List.replicate (4 : Nat) (0 : Int))) x))) ((0 : Nat) + Int.toNat (↑x_2 : Int)) (List.replicate (4 : Nat) (0 : Int))) (4 : Nat) = Prod.fst (Prod.snd (refTo (List.getD (Prod.snd s) (Int.toNat n)
  (List.replicate (4 : Nat) (0 : Int))) (chipsK k f) (gainF (List.getD (Prod.fst s) (Int.toNat n) (0 : Int))) n_1 (allF (Int.toNat (sumAb (List.getD (Prod.snd s) (Int.toNat n) (List.replicate (4 : Nat) (0 : Int))) x))) y))
  ∧ (0 : Nat) = (0 : Nat) ∧ IntKind.wrap IntKind.i64 ((↑x_2 : Int) + (1 : Int)) = (↑y : Int) ∧ Prod.fst s = Prod.fst s ∧ Prod.snd s = Prod.snd s ∧ false = false ∧ List.replicate (8 : Nat) (0 : Int) = List.replicate (8 :
  Nat) (0 : Int) ∧ List.replicate (8 : Nat) (List.replicate (4 : Nat) (0 : Int)) = List.replicate (8 : Nat) (List.replicate (4 : Nat) (0 : Int)) ∧ false = false ∧ chipsK k f = chipsK k f ∧ false = false ∧ List.getD
  (Prod.snd s) (Int.toNat n) (List.replicate (4 : Nat) (0 : Int)) = List.getD (Prod.snd s) (Int.toNat n) (List.replicate (4 : Nat) (0 : Int)) ∧ false = false ∧ allF (Int.toNat (sumAb (List.getD (Prod.snd s) (Int.toNat n)
  (List.replicate (4 : Nat) (0 : Int))) x)) = allF (Int.toNat (sumAb (List.getD (Prod.snd s) (Int.toNat n) (List.replicate (4 : Nat) (0 : Int))) x)) ∧ false = false ∧ List.getD (allF (Int.toNat (sumAb (List.getD (Prod.snd
  s) (Int.toNat n) (List.replicate (4 : Nat) (0 : Int))) x))) ((0 : Nat) + Int.toNat (↑x_2 : Int)) (List.replicate (4 : Nat) (0 : Int)) = Prod.snd (Prod.snd (refTo (List.getD (Prod.snd s) (Int.toNat n) (List.replicate (4 :
  Nat) (0 : Int))) (chipsK k f) (gainF (List.getD (Prod.fst s) (Int.toNat n) (0 : Int))) n_1 (allF (Int.toNat (sumAb (List.getD (Prod.snd s) (Int.toNat n) (List.replicate (4 : Nat) (0 : Int))) x))) y)) ∧ false = false) ∧ y
  ≤ List.length (allF (Int.toNat (sumAb (List.getD (Prod.snd s) (Int.toNat n) (List.replicate (4 : Nat) (0 : Int))) x))) ∧ List.length (allF (Int.toNat (sumAb (List.getD (Prod.snd s) (Int.toNat n) (List.replicate (4 : Nat)
  (0 : Int))) x))) - y < List.length (allF (Int.toNat (sumAb (List.getD (Prod.snd s) (Int.toNat n) (List.replicate (4 : Nat) (0 : Int))) x))) - x_2 else ∃ (y : Nat), ((0 : Nat) = (0 : Nat) ∧ (0 : Nat) = (0 : Nat) ∧ n = n ∧
  (0 : Nat) = (0 : Nat) ∧ (0 : Nat) = (0 : Nat) ∧ (0 : Nat) = (0 : Nat) ∧ List.length (allF (Int.toNat (sumAb (List.getD (Prod.snd s) (Int.toNat n) (List.replicate (4 : Nat) (0 : Int))) x))) = List.length (allF (Int.toNat
  (sumAb (List.getD (Prod.snd s) (Int.toNat n) (List.replicate (4 : Nat) (0 : Int))) x))) ∧ n_1 = n_1 ∧ Prod.fst (refTo (List.getD (Prod.snd s) (Int.toNat n) (List.replicate (4 : Nat) (0 : Int))) (chipsK k f) (gainF
  (List.getD (Prod.fst s) (Int.toNat n) (0 : Int))) n_1 (allF (Int.toNat (sumAb (List.getD (Prod.snd s) (Int.toNat n) (List.replicate (4 : Nat) (0 : Int))) x))) x_2) = Prod.fst (refTo (List.getD (Prod.snd s) (Int.toNat n)
  (List.replicate (4 : Nat) (0 : Int))) (chipsK k f) (gainF (List.getD (Prod.fst s) (Int.toNat n) (0 : Int))) n_1 (allF (Int.toNat (sumAb (List.getD (Prod.snd s) (Int.toNat n) (List.replicate (4 : Nat) (0 : Int))) x))) y) ∧
  Prod.fst (Prod.snd (refTo (List.getD (Prod.snd s) (Int.toNat n) (List.replicate (4 : Nat) (0 : Int))) (chipsK k f) (gainF (List.getD (Prod.fst s) (Int.toNat n) (0 : Int))) n_1 (allF (Int.toNat (sumAb (List.getD (Prod.snd
  s) (Int.toNat n) (List.replicate (4 : Nat) (0 : Int))) x))) x_2)) = Prod.fst (Prod.snd (refTo (List.getD (Prod.snd s) (Int.toNat n) (List.replicate (4 : Nat) (0 : Int))) (chipsK k f) (gainF (List.getD (Prod.fst s)
  (Int.toNat n) (0 : Int))) n_1 (allF (Int.toNat (sumAb (List.getD (Prod.snd s) (Int.toNat n) (List.replicate (4 : Nat) (0 : Int))) x))) y)) ∧ (0 : Nat) = (0 : Nat) ∧ IntKind.wrap IntKind.i64 ((↑x_2 : Int) + (1 : Int)) =
  (↑y : Int) ∧ Prod.fst s = Prod.fst s ∧ Prod.snd s = Prod.snd s ∧ false = false ∧ List.replicate (8 : Nat) (0 : Int) = List.replicate (8 : Nat) (0 : Int) ∧ List.replicate (8 : Nat) (List.replicate (4 : Nat) (0 : Int)) =
  List.replicate (8 : Nat) (List.replicate (4 : Nat) (0 : Int)) ∧ false = false ∧ chipsK k f = chipsK k f ∧ false = false ∧ List.getD (Prod.snd s) (Int.toNat n) (List.replicate (4 : Nat) (0 : Int)) = List.getD (Prod.snd s)
  (Int.toNat n) (List.replicate (4 : Nat) (0 : Int)) ∧ false = false ∧ allF (Int.toNat (sumAb (List.getD (Prod.snd s) (Int.toNat n) (List.replicate (4 : Nat) (0 : Int))) x)) = allF (Int.toNat (sumAb (List.getD (Prod.snd s)
  (Int.toNat n) (List.replicate (4 : Nat) (0 : Int))) x)) ∧ false = false ∧ Prod.snd (Prod.snd (refTo (List.getD (Prod.snd s) (Int.toNat n) (List.replicate (4 : Nat) (0 : Int))) (chipsK k f) (gainF (List.getD (Prod.fst s)
  (Int.toNat n) (0 : Int))) n_1 (allF (Int.toNat (sumAb (List.getD (Prod.snd s) (Int.toNat n) (List.replicate (4 : Nat) (0 : Int))) x))) x_2)) = Prod.snd (Prod.snd (refTo (List.getD (Prod.snd s) (Int.toNat n)
  (List.replicate (4 : Nat) (0 : Int))) (chipsK k f) (gainF (List.getD (Prod.fst s) (Int.toNat n) (0 : Int))) n_1 (allF (Int.toNat (sumAb (List.getD (Prod.snd s) (Int.toNat n) (List.replicate (4 : Nat) (0 : Int))) x))) y))
  ∧ false = false) ∧ y ≤ List.length (allF (Int.toNat (sumAb (List.getD (Prod.snd s) (Int.toNat n) (List.replicate (4 : Nat) (0 : Int))) x))) ∧ List.length (allF (Int.toNat (sumAb (List.getD (Prod.snd s) (Int.toNat n)
  (List.replicate (4 : Nat) (0 : Int))) x))) - y < List.length (allF (Int.toNat (sumAb (List.getD (Prod.snd s) (Int.toNat n) (List.replicate (4 : Nat) (0 : Int))) x))) - x_2 else (((0 : Int) ≤ n ∧ n < (↑(8 : Nat) : Int)) ∧
  Int.toNat n < (8 : Nat)) ∧ Prod.fst s = Prod.fst (Prod.fst (refM k f bit s)) ∧ List.set (Prod.snd s) (Int.toNat n) (Prod.snd (Prod.snd (refTo (List.getD (Prod.snd s) (Int.toNat n) (List.replicate (4 : Nat) (0 : Int)))
  (chipsK k f) (gainF (List.getD (Prod.fst s) (Int.toNat n) (0 : Int))) n_1 (allF (Int.toNat (sumAb (List.getD (Prod.snd s) (Int.toNat n) (List.replicate (4 : Nat) (0 : Int))) x))) x_2))) = Prod.snd (Prod.fst (refM k f bit
  s)) ∧ Prod.fst (refTo (List.getD (Prod.snd s) (Int.toNat n) (List.replicate (4 : Nat) (0 : Int))) (chipsK k f) (gainF (List.getD (Prod.fst s) (Int.toNat n) (0 : Int))) n_1 (allF (Int.toNat (sumAb (List.getD (Prod.snd s)
  (Int.toNat n) (List.replicate (4 : Nat) (0 : Int))) x))) x_2) = Prod.snd (refM k f bit s)
theorem vcd23 (k : List Int) (f : Int) (bit : Bool) (s : List Int × List (List Int)) : Pd23 k f bit s = vcFun Cd23 (annd23 k f bit s) Go.Proofs.Tryd.f23 [⟨.arr 16 (.int .u8), k⟩, ⟨.int .i64, f⟩, ⟨.bool, bit⟩, ⟨(.cons (.arr 8 (.int .i64)) (.last (.arr 8 (.arr 4 (.int .i64))))), s⟩] [] (outd23 k f bit s) := by kernel_rfl

noncomputable def Cd15 : Ctx := ⟨Go.Proofs.Tryd.prog, D, Gd23, (fun _ _ => none), fun r => match r with | 3 => [2] | 4 => [10] | 11 => [4] | _ => []⟩
def annd15 (_k : List Int) (_f : Int) (_bit : Bool) (_s : List Int × List (List Int)) : Nat → St → Option Ann := fun _ S => some ⟨Nat, [7, 8, 10, 11], [1, 2], fun i => [(35, .v (.int .i64) (i : Int))], fun i => [(3, some ⟨false, true, (.cons (.arr 4 (.int .i64)) (.cons (.arr 4 (.int .i64)) (.cons (.int .i64) (.cons (.arr 4 (.int .i64)) (.last (.int .i64)))))), [((S.x 3 (.cons (.arr 4 (.int .i64)) (.cons (.arr 4 (.int .i64)) (.cons (.int .i64) (.cons (.arr 4 (.int .i64)) (.last (.int .i64))))))).1, (negC (S.x 3 (.cons (.arr 4 (.int .i64)) (.cons (.arr 4 (.int .i64)) (.cons (.int .i64) (.cons (.arr 4 (.int .i64)) (.last (.int .i64))))))).2.1).take i ++ (S.x 3 (.cons (.arr 4 (.int .i64)) (.cons (.arr 4 (.int .i64)) (.cons (.int .i64) (.cons (.arr 4 (.int .i64)) (.last (.int .i64))))))).2.1.drop i, (S.x 3 (.cons (.arr 4 (.int .i64)) (.cons (.arr 4 (.int .i64)) (.cons (.int .i64) (.cons (.arr 4 (.int .i64)) (.last (.int .i64))))))).2.2)]⟩)], fun i => i ≤ 4, fun i => 4 - i⟩
def outd15 (k : List Int) (f : Int) (bit : Bool) (s : List Int × List (List Int)) : COut := ⟨[], .tup [⟨(.cons (.arr 8 (.int .i64)) (.last (.arr 8 (.arr 4 (.int .i64))))), (putM k f bit s).1⟩, ⟨.bool, (putM k f bit s).2⟩], [], []⟩
def spd15 : Spec := fun args ins => match args, ins with
  | [⟨.arr 16 (.int .u8), k⟩, ⟨.int .i64, f⟩, ⟨.bool, bit⟩, ⟨(.cons (.arr 8 (.int .i64)) (.last (.arr 8 (.arr 4 (.int .i64))))), s⟩], [] => some (outd15 k f bit s)
  | _, _ => none
def Gd15 := addG Gd23 15 spd15
def Pd15 (k : List Int) (f : Int) (bit : Bool) (s : List Int × List (List Int)) : Prop :=
  bif !heldB (Prod.snd s) then Prod.fst s = Prod.fst (Prod.fst (putM k f bit s)) ∧ Prod.snd s = Prod.snd (Prod.fst (putM k f bit s)) ∧ false = Prod.snd (putM k f bit s) else ∀ (n : Int), bandK k f = n → ∀ (n_1 : Int), movF
  (Prod.fst s) n = n_1 → (((0 : Int) ≤ n ∧ n < (↑(8 : Nat) : Int)) ∧ Int.toNat n < (8 : Nat)) ∧ bif bit then ∃ (x : Nat), (((0 : Nat) = (0 : Nat) ∧ (0 : Nat) = (0 : Nat) ∧ n = n ∧ (0 : Nat) = (0 : Nat) ∧ (0 : Int) = (↑x :
  Int) ∧ Prod.fst s = Prod.fst s ∧ Prod.snd s = Prod.snd s ∧ false = false ∧ List.replicate (8 : Nat) (0 : Int) = List.replicate (8 : Nat) (0 : Int) ∧ List.replicate (8 : Nat) (List.replicate (4 : Nat) (0 : Int)) =
  List.replicate (8 : Nat) (List.replicate (4 : Nat) (0 : Int)) ∧ false = false ∧ List.getD (Prod.snd s) (Int.toNat n) (List.replicate (4 : Nat) (0 : Int)) = List.getD (Prod.snd s) (Int.toNat n) (List.replicate (4 : Nat) (0
  : Int)) ∧ chipsK k f = List.take x (negC (chipsK k f)) ++ List.drop x (chipsK k f) ∧ n_1 = n_1 ∧ List.replicate (4 : Nat) (0 : Int) = List.replicate (4 : Nat) (0 : Int) ∧ (-1 : Int) = (-1 : Int) ∧ false = false) ∧ x ≤ (4
  : Nat)) ∧ ∀ (x : Nat), x ≤ (4 : Nat) → (IntKind.min IntKind.i64 ≤ (↑x : Int) ∧ (↑x : Int) ≤ IntKind.max IntKind.i64 ∧ ∀ (y : List Int × List Int × Int × List Int × Int), List.Mem y [(List.getD (Prod.snd s) (Int.toNat n)
  (List.replicate (4 : Nat) (0 : Int)), List.take x (negC (chipsK k f)) ++ List.drop x (chipsK k f), n_1, List.replicate (4 : Nat) (0 : Int), (-1 : Int))] → List.length (Prod.fst y) = (4 : Nat) ∧ (∀ (y_1 : Int), List.Mem
  y_1 (Prod.fst y) → IntKind.min IntKind.i64 ≤ y_1 ∧ y_1 ≤ IntKind.max IntKind.i64) ∧ List.length (Prod.fst (Prod.snd y)) = (4 : Nat) ∧ (∀ (y_1 : Int), List.Mem y_1 (Prod.fst (Prod.snd y)) → IntKind.min IntKind.i64 ≤ y_1 ∧
  y_1 ≤ IntKind.max IntKind.i64) ∧ IntKind.min IntKind.i64 ≤ Prod.fst (Prod.snd (Prod.snd y)) ∧ Prod.fst (Prod.snd (Prod.snd y)) ≤ IntKind.max IntKind.i64 ∧ List.length (Prod.fst (Prod.snd (Prod.snd (Prod.snd y)))) = (4 :
  Nat) ∧ (∀ (y_1 : Int), List.Mem y_1 (Prod.fst (Prod.snd (Prod.snd (Prod.snd y)))) → IntKind.min IntKind.i64 ≤ y_1 ∧ y_1 ≤ IntKind.max IntKind.i64) ∧ IntKind.min IntKind.i64 ≤ Prod.snd (Prod.snd (Prod.snd (Prod.snd y))) ∧
  Prod.snd (Prod.snd (Prod.snd (Prod.snd y))) ≤ IntKind.max IntKind.i64) → bif decide ((↑x : Int) < (4 : Int)) then (((0 : Int) ≤ (↑x : Int) ∧ (↑x : Int) < (↑(4 : Nat) : Int)) ∧ Int.toNat (↑x : Int) < (4 : Nat) ∧ ((0 : Int)
  ≤ (↑x : Int) ∧ (↑x : Int) < (↑(4 : Nat) : Int)) ∧ Int.toNat (↑x : Int) < (4 : Nat)) ∧ ∃ (y : Nat), ((0 : Nat) = (0 : Nat) ∧ (0 : Nat) = (0 : Nat) ∧ n = n ∧ (0 : Nat) = (0 : Nat) ∧ IntKind.wrap IntKind.i64 ((↑x : Int) + (1
  : Int)) = (↑y : Int) ∧ Prod.fst s = Prod.fst s ∧ Prod.snd s = Prod.snd s ∧ false = false ∧ List.replicate (8 : Nat) (0 : Int) = List.replicate (8 : Nat) (0 : Int) ∧ List.replicate (8 : Nat) (List.replicate (4 : Nat) (0 :
  Int)) = List.replicate (8 : Nat) (List.replicate (4 : Nat) (0 : Int)) ∧ false = false ∧ List.getD (Prod.snd s) (Int.toNat n) (List.replicate (4 : Nat) (0 : Int)) = List.getD (Prod.snd s) (Int.toNat n) (List.replicate (4 :
  Nat) (0 : Int)) ∧ List.set (List.take x (negC (chipsK k f)) ++ List.drop x (chipsK k f)) (Int.toNat (↑x : Int)) (IntKind.wrap IntKind.i64 ((0 : Int) - List.getD (List.take x (negC (chipsK k f)) ++ List.drop x (chipsK k
  f)) (Int.toNat (↑x : Int)) (0 : Int))) = List.take y (negC (chipsK k f)) ++ List.drop y (chipsK k f) ∧ n_1 = n_1 ∧ List.replicate (4 : Nat) (0 : Int) = List.replicate (4 : Nat) (0 : Int) ∧ (-1 : Int) = (-1 : Int) ∧ false
  = false) ∧ y ≤ (4 : Nat) ∧ (4 : Nat) - y < (4 : Nat) - x else ∀ (n_2 : Int), pulsesF (List.getD (Prod.snd s) (Int.toNat n) (List.replicate (4 : Nat) (0 : Int))) = n_2 → ((4 : Nat) ≤ (9223372036854775807 : Nat) ∧ (4 : Nat)
  = List.length (List.getD (Prod.snd s) (Int.toNat n) (List.replicate (4 : Nat) (0 : Int)))) ∧ ∀ (b : Bool), decide ((2 : Int) ≤ dotZ (List.getD (Prod.snd s) (Int.toNat n) (List.replicate (4 : Nat) (0 : Int))) (List.take x
  (negC (chipsK k f)) ++ List.drop x (chipsK k f)) (4 : Nat)) = b → ∀ (b_1 : Bool), (bif b then true else decide (n_1 = (0 : Int))) = b_1 → ((smallV (List.getD (Prod.snd s) (Int.toNat n) (List.replicate (4 : Nat) (0 :
  Int))) ∧ smallV (List.take x (negC (chipsK k f)) ++ List.drop x (chipsK k f))) ∧ ((!b) = true → (!b) = true) ∧ ((!b) = true → (!b) = true) ∧ ((!b) = true → (!b) = true) ∧ ((!b) = true → (!b) = true) ∧ (b = false → (!b) =
  true) ∧ ((!b_1) = true → (!b_1) = true) ∧ (b_1 = false → (!b_1) = true)) ∧ bif bif b_1 then true else decide ((12 : Int) < n_2) then (smallV (List.getD (Prod.snd s) (Int.toNat n) (List.replicate (4 : Nat) (0 : Int))) ∧
  smallV (List.take x (negC (chipsK k f)) ++ List.drop x (chipsK k f))) ∧ Prod.fst s = Prod.fst (Prod.fst (putM k f bit s)) ∧ Prod.snd s = Prod.snd (Prod.fst (putM k f bit s)) ∧ decide ((2 : Int) ≤ dotZ (List.getD (Prod.snd
  s) (Int.toNat n) (List.replicate (4 : Nat) (0 : Int))) (List.take x (negC (chipsK k f)) ++ List.drop x (chipsK k f)) (4 : Nat)) = Prod.snd (putM k f bit s) else (((0 : Int) ≤ n_2 ∧ n_2 ≤ (12 : Int)) ∧ smallV (List.getD
  (Prod.snd s) (Int.toNat n) (List.replicate (4 : Nat) (0 : Int))) ∧ smallV (List.take x (negC (chipsK k f)) ++ List.drop x (chipsK k f))) ∧ bif decide (Prod.snd (Prod.snd (Prod.snd (Prod.snd (Prod.snd (eachF (3 : Nat) (0 :
  Int) n_2 (List.replicate (4 : Nat) (0 : Int), List.getD (Prod.snd s) (Int.toNat n) (List.replicate (4 : Nat) (0 : Int)), List.take x (negC (chipsK k f)) ++ List.drop x (chipsK k f), n_1, List.replicate (4 : Nat) (0 :
  Int), (-1 : Int))))))) < (0 : Int)) then Prod.fst s = Prod.fst (Prod.fst (putM k f bit s)) ∧ Prod.snd s = Prod.snd (Prod.fst (putM k f bit s)) ∧ false = Prod.snd (putM k f bit s) else (((0 : Int) ≤ n ∧ n < (↑(8 : Nat) :
  Int)) ∧ Int.toNat n < (8 : Nat)) ∧ Prod.fst s = Prod.fst (Prod.fst (putM k f bit s)) ∧ List.set (Prod.snd s) (Int.toNat n) (Prod.fst (Prod.snd (Prod.snd (Prod.snd (Prod.snd (eachF (3 : Nat) (0 : Int) n_2 (List.replicate
  (4 : Nat) (0 : Int), List.getD (Prod.snd s) (Int.toNat n) (List.replicate (4 : Nat) (0 : Int)), List.take x (negC (chipsK k f)) ++ List.drop x (chipsK k f), n_1, List.replicate (4 : Nat) (0 : Int), (-1 : Int)))))))) =
  Prod.snd (Prod.fst (putM k f bit s)) ∧ true = Prod.snd (putM k f bit s) else ∀ (n_2 : Int), pulsesF (List.getD (Prod.snd s) (Int.toNat n) (List.replicate (4 : Nat) (0 : Int))) = n_2 → ((4 : Nat) ≤ (9223372036854775807 :
  Nat) ∧ (4 : Nat) = List.length (List.getD (Prod.snd s) (Int.toNat n) (List.replicate (4 : Nat) (0 : Int)))) ∧ ∀ (b : Bool), decide ((2 : Int) ≤ dotZ (List.getD (Prod.snd s) (Int.toNat n) (List.replicate (4 : Nat) (0 :
  Int))) (chipsK k f) (4 : Nat)) = b → ∀ (b_1 : Bool), (bif b then true else decide (n_1 = (0 : Int))) = b_1 → ((smallV (List.getD (Prod.snd s) (Int.toNat n) (List.replicate (4 : Nat) (0 : Int))) ∧ smallV (chipsK k f)) ∧
  ((!b) = true → (!b) = true) ∧ ((!b) = true → (!b) = true) ∧ ((!b) = true → (!b) = true) ∧ ((!b) = true → (!b) = true) ∧ (b = false → (!b) = true) ∧ ((!b_1) = true → (!b_1) = true) ∧ (b_1 = false → (!b_1) = true)) ∧ bif
  bif b_1 then true else decide ((12 : Int) < n_2) then (smallV (List.getD (Prod.snd s) (Int.toNat n) (List.replicate (4 : Nat) (0 : Int))) ∧ smallV (chipsK k f)) ∧ Prod.fst s = Prod.fst (Prod.fst (putM k f bit s)) ∧
  Prod.snd s = Prod.snd (Prod.fst (putM k f bit s)) ∧ decide ((2 : Int) ≤ dotZ (List.getD (Prod.snd s) (Int.toNat n) (List.replicate (4 : Nat) (0 : Int))) (chipsK k f) (4 : Nat)) = Prod.snd (putM k f bit s) else (((0 : Int)
  ≤ n_2 ∧ n_2 ≤ (12 : Int)) ∧ smallV (List.getD (Prod.snd s) (Int.toNat n) (List.replicate (4 : Nat) (0 : Int))) ∧ smallV (chipsK k f)) ∧ bif decide (Prod.snd (Prod.snd (Prod.snd (Prod.snd (Prod.snd (eachF (3 : Nat) (0 :
  Int) n_2 (List.replicate (4 : Nat) (0 : Int), List.getD (Prod.snd s) (Int.toNat n) (List.replicate (4 : Nat) (0 : Int)), chipsK k f, n_1, List.replicate (4 : Nat) (0 : Int), (-1 : Int))))))) < (0 : Int)) then Prod.fst s =
  Prod.fst (Prod.fst (putM k f bit s)) ∧ Prod.snd s = Prod.snd (Prod.fst (putM k f bit s)) ∧ false = Prod.snd (putM k f bit s) else (((0 : Int) ≤ n ∧ n < (↑(8 : Nat) : Int)) ∧ Int.toNat n < (8 : Nat)) ∧ Prod.fst s =
  Prod.fst (Prod.fst (putM k f bit s)) ∧ List.set (Prod.snd s) (Int.toNat n) (Prod.fst (Prod.snd (Prod.snd (Prod.snd (Prod.snd (eachF (3 : Nat) (0 : Int) n_2 (List.replicate (4 : Nat) (0 : Int), List.getD (Prod.snd s)
  (Int.toNat n) (List.replicate (4 : Nat) (0 : Int)), chipsK k f, n_1, List.replicate (4 : Nat) (0 : Int), (-1 : Int)))))))) = Prod.snd (Prod.fst (putM k f bit s)) ∧ true = Prod.snd (putM k f bit s)
theorem vcd15 (k : List Int) (f : Int) (bit : Bool) (s : List Int × List (List Int)) : Pd15 k f bit s = vcFun Cd15 (annd15 k f bit s) Go.Proofs.Tryd.f15 [⟨.arr 16 (.int .u8), k⟩, ⟨.int .i64, f⟩, ⟨.bool, bit⟩, ⟨(.cons (.arr 8 (.int .i64)) (.last (.arr 8 (.arr 4 (.int .i64))))), s⟩] [] (outd15 k f bit s) := by kernel_rfl

noncomputable def Cd25 : Ctx := ⟨Go.Proofs.Tryd.prog, D, Gd15, (fun _ _ => none), fun _ => []⟩
def annd25 (_k : List Int) (_f : Int) (_bit : Bool) (_s : List Int × List (List Int)) : Nat → St → Option Ann := fun _ _ => none
def outd25 (k : List Int) (f : Int) (bit : Bool) (s : List Int × List (List Int)) : COut := ⟨[], .v .bool (putM k f bit s).2, [], []⟩
def spd25 : Spec := fun args ins => match args, ins with
  | [⟨.arr 16 (.int .u8), k⟩, ⟨.int .i64, f⟩, ⟨.bool, bit⟩, ⟨(.cons (.arr 8 (.int .i64)) (.last (.arr 8 (.arr 4 (.int .i64))))), s⟩], [] => some (outd25 k f bit s)
  | _, _ => none
def Gd25 := addG Gd15 25 spd25
def Pd25 (k : List Int) (f : Int) (bit : Bool) (s : List Int × List (List Int)) : Prop :=
  Prod.snd (putM k f bit (Prod.fst s, Prod.snd s)) = Prod.snd (putM k f bit s)
theorem vcd25 (k : List Int) (f : Int) (bit : Bool) (s : List Int × List (List Int)) : Pd25 k f bit s = vcFun Cd25 (annd25 k f bit s) Go.Proofs.Tryd.f25 [⟨.arr 16 (.int .u8), k⟩, ⟨.int .i64, f⟩, ⟨.bool, bit⟩, ⟨(.cons (.arr 8 (.int .i64)) (.last (.arr 8 (.arr 4 (.int .i64))))), s⟩] [] (outd25 k f bit s) := by kernel_rfl

end Go.SL.A

/- A bit put into its band: the code and the document. -/
namespace Go.SL.A
open Go Go.SL Go.SL.S
set_option maxRecDepth 100000

theorem hwd16b {k : List Int} {f : Int} {bit : Bool} {s : List Int × List (List Int)} (hw : Go.SL.allP (List.flatMap (fun a : AV => a.t.wf a.x) [⟨.arr 16 (.int .u8), k⟩, ⟨.int .i64, f⟩, ⟨.bool, bit⟩, ⟨(.cons (.arr 8 (.int .i64)) (.last (.arr 8 (.arr 4 (.int .i64))))), s⟩] ++ List.flatMap Blk.wf [])) : s.1.length = 8 ∧ s.2.length = 8 ∧ ∀ y ∈ s.2, y.length = 4 := by
  simp only [List.flatMap_cons, List.flatMap_nil, Ty.wf, List.append_nil, List.cons_append, List.nil_append, Go.SL.allP] at hw
  exact ⟨hw.2.2.2.2.1, hw.2.2.2.2.2.2.1, fun y hy => (hw.2.2.2.2.2.2.2 y hy).1⟩
theorem chips_len (k : List Int) (f : Int) : (chipsK k f).length = 4 := by unfold chipsK; exact chipK_len _
theorem negC_at (c : List Int) (i : Nat) : (negC c).getD i 0 = -(c.getD i 0) := by
  unfold negC
  rw [List.getD_eq_getElem?_getD, List.getD_eq_getElem?_getD, List.getElem?_map]
  cases c[i]? <;> rfl
theorem negC_small {c : List Int} (h : smallV c) : smallV (negC c) := by
  intro i hi
  have := h i hi
  rw [negC_at]; omega
theorem chipB_small {c : List Int} (h : smallV c) (bit : Bool) : smallV (chipB bit c) := by
  cases bit
  · exact h
  · exact negC_small h
theorem pulses_pos (y : List Int) : 0 ≤ pulsesF y := by
  unfold pulsesF
  have := sumSz_fit y
  split <;> omega
theorem neg_step {c : List Int} (hc : smallV c) (hl : c.length = 4) {i : Nat} (hi : i < 4) : List.set (List.take i (negC c) ++ List.drop i c) i (IntKind.i64.wrap (0 - (List.take i (negC c) ++ List.drop i c).getD i 0)) = List.take (i + 1) (negC c) ++ List.drop (i + 1) c := by
  have e : (List.take i (negC c) ++ List.drop i c).getD i 0 = c.getD i 0 := by
    have hn : (negC c).length = 4 := by unfold negC; rw [List.length_map]; exact hl
    rw [List.getD_eq_getElem?_getD, List.getElem?_append_right (by rw [List.length_take]; omega), List.length_take, Nat.min_eq_left (by omega), Nat.sub_self, List.getElem?_drop, Nat.add_zero, ← List.getD_eq_getElem?_getD]
  have h1 := hc i hi
  have hn : (negC c).length = 4 := by unfold negC; rw [List.length_map]; exact hl
  rw [e, w64 (by omega) (by omega), Int.zero_sub]
  refine set_step (by omega) (by omega) ?_
  have := negC_at c i
  rw [List.getD_eq_getElem?_getD, List.getElem?_eq_getElem (by omega), Option.getD_some] at this
  rw [List.getElem?_eq_getElem (by omega), this]
theorem neg_all (c : List Int) (hl : c.length = 4) : List.take 4 (negC c) ++ List.drop 4 c = negC c := by
  have hn : (negC c).length = 4 := by unfold negC; rw [List.length_map]; exact hl
  rw [List.take_of_length_le (by omega), List.drop_eq_nil_of_le (by omega), List.append_nil]

theorem pured15 (k : List Int) (f : Int) (bit : Bool) (s : List Int × List (List Int)) (hl : s.1.length = 8 ∧ s.2.length = 8 ∧ ∀ y ∈ s.2, y.length = 4) : Pd15 k f bit s := by
  unfold Pd15
  have hb := band_fit k f
  have hc := chip_small k f
  have hcl := chips_len k f
  have hP : putM k f bit s = if heldB s.2 then putR (rowZ s.2 (bandK k f)) (chipB bit (chipsK k f)) (movF s.1 (bandK k f)) (pulsesF (rowZ s.2 (bandK k f))) s (bandK k f).toNat else (s, false) := rfl
  generalize putM k f bit s = R at *
  generalize bandK k f = b at *
  generalize chipsK k f = c at *
  cases hh : heldB s.2 with
  | false =>
    rw [hh, if_neg (by simp)] at hP
    subst hP
    rw [Bool.not_false, cond_true]
    and_intros <;> rfl
  | true =>
    rw [hh, if_pos rfl] at hP
    rw [Bool.not_true, cond_false]
    rintro n rfl m hm
    have hr := held_row hl.2.1 hh hb
    have hyl : (rowZ s.2 b).length = 4 := hl.2.2 _ (getD_mem (by omega))
    refine ⟨⟨hb, by omega⟩, ?_⟩
    rw [hm] at hP
    unfold rowZ at hP hr hyl
    generalize s.2.getD b.toNat (List.replicate 4 0) = y at *
    have hy := small_of hr
    have hd := chipB_small hc bit
    have hn0 := pulses_pos y
    generalize pulsesF y = q at *
    unfold putR at hP
    cases bit with
    | true =>
      rw [cond_true]
      refine ⟨0, ⟨?_, by omega⟩, fun i hi hw => ?_⟩
      · and_intros <;> rfl
      clear hw
      by_cases h : (i : Int) < 4
      · rw [decide_eq_true h, cond_true, Int.toNat_natCast, neg_step hc hcl (by omega)]
        refine ⟨⟨⟨by omega, by omega⟩, by omega, ⟨by omega, by omega⟩, by omega⟩, i + 1, ?_, by omega, by omega⟩
        and_intros <;> first | rfl | exact step_i (by omega)
      · have : i = 4 := by omega
        subst this
        rw [decide_eq_false h, cond_false, neg_all c hcl]
        have e : chipB true c = negC c := rfl
        rw [e] at hP hd
        clear e h hi hc hcl
        generalize negC c = d at *
        rintro n2 rfl
        refine ⟨⟨by decide, hyl.symm⟩, ?_⟩
        rintro b0 hb0 b1 hb1
        refine ⟨⟨⟨hy, hd⟩, by cases b0 <;> cases b1 <;> simp⟩, ?_⟩
        have hg : (bif b1 then true else decide (12 < q)) = (decide (2 ≤ dotZ y d 4) || (decide (m = 0) || decide (12 < q))) := by
          rw [← hb1, ← hb0]; cases decide (2 ≤ dotZ y d 4) <;> cases decide (m = 0) <;> rfl
        rw [hg]
        cases hgg : (decide (2 ≤ dotZ y d 4) || (decide (m = 0) || decide (12 < q))) with
        | true =>
          rw [hgg, if_pos rfl] at hP
          subst hP
          rw [cond_true]
          exact ⟨⟨hy, hd⟩, rfl, rfl, rfl⟩
        | false =>
          rw [hgg, if_neg (by simp)] at hP
          rw [cond_false]
          have h12 : q ≤ 12 := by
            rw [Bool.or_eq_false_iff, Bool.or_eq_false_iff, decide_eq_false_iff_not, decide_eq_false_iff_not, decide_eq_false_iff_not] at hgg
            omega
          unfold srch at hP
          generalize eachF 3 0 q (List.replicate 4 0, (y, d, m, List.replicate 4 0, -1)) = E at *
          refine ⟨⟨⟨hn0, h12⟩, hy, hd⟩, ?_⟩
          by_cases hf : E.2.2.2.2.2 < 0
          · rw [if_pos hf] at hP
            subst hP
            rw [decide_eq_true hf, cond_true]
            exact ⟨rfl, rfl, rfl⟩
          · rw [if_neg hf] at hP
            subst hP
            rw [decide_eq_false hf, cond_false]
            exact ⟨⟨hb, by omega⟩, rfl, rfl, rfl⟩
    | false =>
      rw [cond_false]
      have e : chipB false c = c := rfl
      rw [e] at hP hd
      clear e hc hcl
      generalize c = d at *
      rintro n2 rfl
      refine ⟨⟨by decide, hyl.symm⟩, ?_⟩
      rintro b0 hb0 b1 hb1
      refine ⟨⟨⟨hy, hd⟩, by cases b0 <;> cases b1 <;> simp⟩, ?_⟩
      have hg : (bif b1 then true else decide (12 < q)) = (decide (2 ≤ dotZ y d 4) || (decide (m = 0) || decide (12 < q))) := by
        rw [← hb1, ← hb0]; cases decide (2 ≤ dotZ y d 4) <;> cases decide (m = 0) <;> rfl
      rw [hg]
      cases hgg : (decide (2 ≤ dotZ y d 4) || (decide (m = 0) || decide (12 < q))) with
      | true =>
        rw [hgg, if_pos rfl] at hP
        subst hP
        rw [cond_true]
        exact ⟨⟨hy, hd⟩, rfl, rfl, rfl⟩
      | false =>
        rw [hgg, if_neg (by simp)] at hP
        rw [cond_false]
        have h12 : q ≤ 12 := by
          rw [Bool.or_eq_false_iff, Bool.or_eq_false_iff, decide_eq_false_iff_not, decide_eq_false_iff_not, decide_eq_false_iff_not] at hgg
          omega
        unfold srch at hP
        generalize eachF 3 0 q (List.replicate 4 0, (y, d, m, List.replicate 4 0, -1)) = E at *
        refine ⟨⟨⟨hn0, h12⟩, hy, hd⟩, ?_⟩
        by_cases hf : E.2.2.2.2.2 < 0
        · rw [if_pos hf] at hP
          subst hP
          rw [decide_eq_true hf, cond_true]
          exact ⟨rfl, rfl, rfl⟩
        · rw [if_neg hf] at hP
          subst hP
          rw [decide_eq_false hf, cond_false]
          exact ⟨⟨hb, by omega⟩, rfl, rfl, rfl⟩

theorem nums_fit {K : Nat} (hK : K ≤ 12) {x : Int} (h : x ∈ numsF K) : 0 ≤ sz13 x ∧ sz13 x ≤ K := ⟨(nums_sz hK h).2.1, (nums_sz hK h).2.2⟩
theorem mem_allV : ∀ {n K : Nat} {z : List Int}, K ≤ 12 → (z ∈ allV n K ↔ z.length = n ∧ sumSz z = (K : Int))
  | 0, K, z, _ => by
    rw [allV]
    split
    · next h =>
      subst h
      rw [List.mem_singleton]
      constructor
      · rintro rfl; exact ⟨rfl, rfl⟩
      · rintro ⟨h1, -⟩; exact List.eq_nil_of_length_eq_zero h1
    · next h =>
      constructor
      · intro h'; cases h'
      · rintro ⟨h1, h2⟩
        rw [List.eq_nil_of_length_eq_zero h1, sumSz] at h2; omega
  | n + 1, K, z, hK => by
    rw [allV, List.mem_flatMap]
    constructor
    · rintro ⟨x, hx, hz⟩
      obtain ⟨v, hv, rfl⟩ := List.mem_map.1 hz
      have hf := nums_fit hK hx
      obtain ⟨h1, h2⟩ := (mem_allV (n := n) (K := K - (sz13 x).toNat) (z := v) (by omega)).1 hv
      rw [List.length_cons, sumSz, h1, h2]
      exact ⟨rfl, by omega⟩
    · rintro ⟨h1, h2⟩
      cases z with
      | nil => cases h1
      | cons x v =>
        rw [sumSz] at h2
        have hv := sumSz_fit v
        have hx := sz13_pos x
        have h12 : -12 ≤ x ∧ x ≤ 12 ∧ (sz13 x = x ∨ sz13 x = -x) := sz13_le12 (by omega)
        refine ⟨x, mem_numsF.2 (by omega), List.mem_map.2 ⟨v, (mem_allV (n := n) (K := K - (sz13 x).toNat) (z := v) (by omega)).2 ⟨?_, by omega⟩, rfl⟩⟩
        rw [List.length_cons] at h1; omega
theorem sumSz_get {z : List Int} (h : sumSz z ≤ 12) (i : Nat) : -12 ≤ z.getD i 0 ∧ z.getD i 0 ≤ 12 := by
  by_cases hi : i < z.length
  · have hsp := sumSz_app (z.take (i + 1)) (z.drop (i + 1))
    rw [List.take_append_drop, take_snoc' 0 hi, sumSz_app] at hsp
    have f1 := (sumSz_fit (z.take i)).1
    have f2 := (sumSz_fit (z.drop (i + 1))).1
    have hq : sumSz [z.getD i 0] = sz13 (z.getD i 0) := by rw [sumSz, sumSz, Int.add_zero]
    have := sz13_le12 (x := z.getD i 0) (by omega)
    omega
  · rw [List.getD_eq_getElem?_getD, List.getElem?_eq_none (by omega)]; simp
theorem allF_small {K : Nat} (hK : K ≤ 12) {i : Nat} (hi : i < (allF K).length) : smallV ((allF K).getD i (List.replicate 4 0)) := by
  have h := getD_mem (d := List.replicate 4 (0 : Int)) hi
  rw [all_eq hK] at h ⊢
  have := (mem_allV hK).1 h
  intro j _
  have := sumSz_get (z := (allV 4 K).getD i (List.replicate 4 0)) (by omega) j
  omega
theorem sumAb_sz : ∀ (y : List Int) (i : Nat), i ≤ y.length → okRow y = true → sumAb y i = sumSz (y.take i)
  | _, 0, _, _ => rfl
  | y, i + 1, h, ho => by
    rw [sumAb, sumAb_sz y i (by omega) ho, take_snoc' 0 (by omega), sumSz_app, sumSz, sumSz, Int.add_zero, (okN_sz (all_get (d := (0 : Int)) (by omega) ho)).2]
theorem sumAb_fit {y : List Int} (ho : okRow y = true) : ∀ i, 0 ≤ sumAb y i ∧ sumAb y i ≤ 12 * (i : Int)
  | 0 => by simp [sumAb]
  | i + 1 => by
    have ih := sumAb_fit ho i
    have := row_small ho i
    rw [sumAb]; unfold absZ; omega
theorem far_gain {a g : Int} (ha : 0 ≤ a ∧ a ≤ 8000) (hg : 0 ≤ g ∧ g ≤ 32768) : 0 ≤ a * g ∧ a * g ≤ 262144000 := by
  refine ⟨Int.mul_nonneg ha.1 hg.1, ?_⟩
  have := Int.mul_le_mul ha.2 hg.2 hg.1 (by omega)
  omega

theorem pured23 (k : List Int) (f : Int) (bit : Bool) (s : List Int × List (List Int)) (hp : heldB s.2 = true ∧ rightF s.1 = true ∧ pulsesF (rowZ s.2 (bandK k f)) ≤ 12) (hl : s.1.length = 8 ∧ s.2.length = 8 ∧ ∀ y ∈ s.2, y.length = 4) : Pd23 k f bit s := by
  unfold Pd23
  have hb := band_fit k f
  have hc := chip_small k f
  have hcl := chips_len k f
  have hP : refM k f bit s = refR (rowZ s.2 (bandK k f)) (chipB bit (chipsK k f)) (gainF (s.1.getD (bandK k f).toNat 0)) (budTo s.1 (bandK k f) 8) s (bandK k f).toNat := rfl
  generalize refM k f bit s = R at *
  generalize bandK k f = b at *
  generalize chipsK k f = c at *
  obtain ⟨hh, hr, hn⟩ := hp
  rintro n rfl
  have ho := held_row hl.2.1 hh hb
  have hyl : (rowZ s.2 b).length = 4 := hl.2.2 _ (getD_mem (by omega))
  unfold rowZ at hP ho hyl hn
  have hg := right_get hr b.toNat
  have hgf := gain_fits (s.1.getD b.toNat 0)
  generalize s.2.getD b.toNat (List.replicate 4 0) = y at *
  have hy := small_of ho
  have hd := chipB_small hc bit
  have hs4 : sumAb y 4 = pulsesF y := by
    rw [sumAb_sz y 4 (by omega) ho, List.take_of_length_le (by omega)]
    unfold pulsesF
    rw [if_neg (by omega)]
    have : sumSz y ≤ 12 := by
      unfold pulsesF at hn
      rw [if_neg (by omega)] at hn; omega
    omega
  have hs0 := pulses_pos y
  unfold refR at hP
  simp only [eq_self, true_and, and_true, List.append_eq]
  cases bit with
  | true =>
    rw [cond_true]
    refine ⟨0, ⟨⟨rfl, rfl⟩, by omega⟩, fun i hi hw => ?_⟩
    clear hw
    by_cases h : (i : Int) < 4
    · rw [decide_eq_true h, cond_true, Int.toNat_natCast, neg_step hc hcl (by omega)]
      exact ⟨⟨⟨by omega, by omega⟩, by omega, ⟨by omega, by omega⟩, by omega⟩, i + 1, ⟨step_i (by omega), rfl⟩, by omega, by omega⟩
    · have : i = 4 := by omega
      subst this
      rw [decide_eq_false h, cond_false]
      simp only [neg_all c hcl]
      have e : chipB true c = negC c := rfl
      rw [e] at hP hd
      clear e h hi hc hcl
      generalize negC c = d at *
      refine ⟨⟨hb, by omega⟩, ⟨hy, hd⟩, ?_⟩
      by_cases hdot : 2 ≤ dotZ y d 4
      · rw [if_pos hdot] at hP
        subst hP
        rw [decide_eq_true hdot, cond_true]
        exact ⟨rfl, rfl, rfl⟩
      rw [if_neg hdot] at hP
      rw [decide_eq_false hdot, cond_false]
      refine ⟨0, ⟨⟨rfl, rfl⟩, by omega⟩, fun i hi hw => ?_⟩
      clear hw
      by_cases h : (i : Int) < 4
      · have h1 := hy i (by omega)
        have hf := sumAb_fit ho i
        have hst : sumAb y (i + 1) = sumAb y i + absZ (y.getD i 0) := rfl
        have hab : 0 ≤ absZ (y.getD i 0) ∧ absZ (y.getD i 0) ≤ 1000 := by unfold absZ; omega
        rw [decide_eq_true h, cond_true, Int.toNat_natCast, szR_absZ (by omega), w64 (n := sumAb y i + absZ (y.getD i 0)) (by omega) (by omega)]
        exact ⟨⟨⟨by omega, by omega⟩, by omega⟩, i + 1, ⟨hst.symm, step_i (by omega)⟩, by omega, by omega⟩
      have : i = 4 := by omega
      subst this
      rw [decide_eq_false h, cond_false]
      refine ⟨⟨by omega, by omega⟩, ?_⟩
      rintro room hroom
      rw [hroom] at hP
      have hK : (sumAb y 4).toNat ≤ 12 := by omega
      have hsm := fun j hj => allF_small hK (i := j) hj
      have hst : ∀ j, refTo y d (gainF (s.1.getD b.toNat 0)) room (allF (sumAb y 4).toNat) (j + 1) = refOne y d (gainF (s.1.getD b.toNat 0)) room (refTo y d (gainF (s.1.getD b.toNat 0)) room (allF (sumAb y 4).toNat) j) ((allF (sumAb y 4).toNat).getD j (List.replicate 4 0)) := fun j => rfl
      have hLL : (allF (sumAb y 4).toNat).length ≤ 31250 := (st_lens hK _ 0 0).1
      generalize allF (sumAb y 4).toNat = L at *
      generalize gainF (s.1.getD b.toNat 0) = g at *
      refine ⟨⟨hr, hb⟩, 0, ⟨⟨rfl, rfl, rfl, rfl⟩, by omega⟩, fun j hj hw => ?_⟩
      clear hw
      by_cases hjL : (j : Int) < (L.length : Int)
      · have hz := hsm j (by omega)
        have hst := hst j
        rw [decide_eq_true hjL, cond_true]
        simp only [Int.toNat_natCast, Nat.zero_add]
        generalize L.getD j (List.replicate 4 0) = z at *
        have ff := far_fitM hy hz 4 (by omega)
        have fg := far_gain (a := farM y z 4) (g := g) (by omega) hgf
        refine ⟨⟨⟨by omega, by omega⟩, by omega, hy, hz⟩, ?_⟩
        unfold refOne at hst
        by_cases hz2 : 2 ≤ dotZ z d 4
        · rw [decide_eq_true hz2, Bool.true_and] at hst
          rw [decide_eq_true hz2, cond_true]
          simp only [w64 (n := farM y z 4 * g) (by omega) (by omega)]
          rintro b0 hb0 b1 hb1
          rw [hb0, hb1] at hst
          refine ⟨⟨⟨by omega, by omega⟩, by omega, ⟨hz, hd⟩, ⟨hb.1, by omega⟩, by omega, hg, by cases b0 <;> cases b1 <;> simp⟩, ?_⟩
          have hgd : (bif b0 then (bif b1 then true else decide (farM y z 4 < (refTo y d g room L j).2.1)) else false) = (b0 && (b1 || decide (farM y z 4 < (refTo y d g room L j).2.1))) := by cases b0 <;> cases b1 <;> rfl
          rw [hgd]
          cases hq : (b0 && (b1 || decide (farM y z 4 < (refTo y d g room L j).2.1))) with
          | true =>
            rw [hq, if_pos rfl] at hst
            rw [cond_true]
            refine ⟨⟨⟨by omega, by omega⟩, by omega⟩, j + 1, ⟨?_, ?_, step_i (by omega), ?_⟩, by omega, by omega⟩ <;> rw [hst]
          | false =>
            rw [hq, if_neg (by simp)] at hst
            rw [cond_false]
            refine ⟨j + 1, ⟨?_, ?_, step_i (by omega), ?_⟩, by omega, by omega⟩ <;> rw [hst]
        · rw [decide_eq_false hz2, Bool.false_and, if_neg (by simp)] at hst
          rw [decide_eq_false hz2, cond_false]
          rintro b0 hb0 b1 hb1
          subst hb0
          refine ⟨⟨⟨by omega, by omega⟩, by omega, ⟨hz, hd⟩, by cases b1 <;> simp⟩, ?_⟩
          rw [cond_false, cond_false]
          refine ⟨j + 1, ⟨?_, ?_, step_i (by omega), ?_⟩, by omega, by omega⟩ <;> rw [hst]
      · have : j = L.length := by omega
        subst this
        subst hP
        rw [decide_eq_false hjL, cond_false]
        exact ⟨⟨hb, by omega⟩, rfl, rfl, rfl⟩
  | false =>
    rw [cond_false]
    have e : chipB false c = c := rfl
    rw [e] at hP hd
    clear e hc hcl
    generalize c = d at *
    refine ⟨⟨hb, by omega⟩, ⟨hy, hd⟩, ?_⟩
    by_cases hdot : 2 ≤ dotZ y d 4
    · rw [if_pos hdot] at hP
      subst hP
      rw [decide_eq_true hdot, cond_true]
      exact ⟨rfl, rfl, rfl⟩
    rw [if_neg hdot] at hP
    rw [decide_eq_false hdot, cond_false]
    refine ⟨0, ⟨⟨rfl, rfl⟩, by omega⟩, fun i hi hw => ?_⟩
    clear hw
    by_cases h : (i : Int) < 4
    · have h1 := hy i (by omega)
      have hf := sumAb_fit ho i
      have hst : sumAb y (i + 1) = sumAb y i + absZ (y.getD i 0) := rfl
      have hab : 0 ≤ absZ (y.getD i 0) ∧ absZ (y.getD i 0) ≤ 1000 := by unfold absZ; omega
      rw [decide_eq_true h, cond_true, Int.toNat_natCast, szR_absZ (by omega), w64 (n := sumAb y i + absZ (y.getD i 0)) (by omega) (by omega)]
      exact ⟨⟨⟨by omega, by omega⟩, by omega⟩, i + 1, ⟨hst.symm, step_i (by omega)⟩, by omega, by omega⟩
    have : i = 4 := by omega
    subst this
    rw [decide_eq_false h, cond_false]
    refine ⟨⟨by omega, by omega⟩, ?_⟩
    rintro room hroom
    rw [hroom] at hP
    have hK : (sumAb y 4).toNat ≤ 12 := by omega
    have hsm := fun j hj => allF_small hK (i := j) hj
    have hst : ∀ j, refTo y d (gainF (s.1.getD b.toNat 0)) room (allF (sumAb y 4).toNat) (j + 1) = refOne y d (gainF (s.1.getD b.toNat 0)) room (refTo y d (gainF (s.1.getD b.toNat 0)) room (allF (sumAb y 4).toNat) j) ((allF (sumAb y 4).toNat).getD j (List.replicate 4 0)) := fun j => rfl
    have hLL : (allF (sumAb y 4).toNat).length ≤ 31250 := (st_lens hK _ 0 0).1
    generalize allF (sumAb y 4).toNat = L at *
    generalize gainF (s.1.getD b.toNat 0) = g at *
    refine ⟨⟨hr, hb⟩, 0, ⟨⟨rfl, rfl, rfl, rfl⟩, by omega⟩, fun j hj hw => ?_⟩
    clear hw
    by_cases hjL : (j : Int) < (L.length : Int)
    · have hz := hsm j (by omega)
      have hst := hst j
      rw [decide_eq_true hjL, cond_true]
      simp only [Int.toNat_natCast, Nat.zero_add]
      generalize L.getD j (List.replicate 4 0) = z at *
      have ff := far_fitM hy hz 4 (by omega)
      have fg := far_gain (a := farM y z 4) (g := g) (by omega) hgf
      refine ⟨⟨⟨by omega, by omega⟩, by omega, hy, hz⟩, ?_⟩
      unfold refOne at hst
      by_cases hz2 : 2 ≤ dotZ z d 4
      · rw [decide_eq_true hz2, Bool.true_and] at hst
        rw [decide_eq_true hz2, cond_true]
        simp only [w64 (n := farM y z 4 * g) (by omega) (by omega)]
        rintro b0 hb0 b1 hb1
        rw [hb0, hb1] at hst
        refine ⟨⟨⟨by omega, by omega⟩, by omega, ⟨hz, hd⟩, ⟨hb.1, by omega⟩, by omega, hg, by cases b0 <;> cases b1 <;> simp⟩, ?_⟩
        have hgd : (bif b0 then (bif b1 then true else decide (farM y z 4 < (refTo y d g room L j).2.1)) else false) = (b0 && (b1 || decide (farM y z 4 < (refTo y d g room L j).2.1))) := by cases b0 <;> cases b1 <;> rfl
        rw [hgd]
        cases hq : (b0 && (b1 || decide (farM y z 4 < (refTo y d g room L j).2.1))) with
        | true =>
          rw [hq, if_pos rfl] at hst
          rw [cond_true]
          refine ⟨⟨⟨by omega, by omega⟩, by omega⟩, j + 1, ⟨?_, ?_, step_i (by omega), ?_⟩, by omega, by omega⟩ <;> rw [hst]
        | false =>
          rw [hq, if_neg (by simp)] at hst
          rw [cond_false]
          refine ⟨j + 1, ⟨?_, ?_, step_i (by omega), ?_⟩, by omega, by omega⟩ <;> rw [hst]
      · rw [decide_eq_false hz2, Bool.false_and, if_neg (by simp)] at hst
        rw [decide_eq_false hz2, cond_false]
        rintro b0 hb0 b1 hb1
        subst hb0
        refine ⟨⟨⟨by omega, by omega⟩, by omega, ⟨hz, hd⟩, by cases b1 <;> simp⟩, ?_⟩
        rw [cond_false, cond_false]
        refine ⟨j + 1, ⟨?_, ?_, step_i (by omega), ?_⟩, by omega, by omega⟩ <;> rw [hst]
    · have : j = L.length := by omega
      subst this
      subst hP
      rw [decide_eq_false hjL, cond_false]
      exact ⟨⟨hb, by omega⟩, rfl, rfl, rfl⟩
theorem pured25 (k : List Int) (f : Int) (bit : Bool) (s : List Int × List (List Int)) : Pd25 k f bit s := by
  unfold Pd25
  and_intros <;> rfl
end Go.SL.A

/- Functions do what they are held to do. -/
namespace Go.SL.A
open Go Go.SL Go.SL.S
theorem sndd23 : Sound Go.Proofs.Tryd.prog Gd23 := sndd59.add ⟨_, Go.Proofs.Tryd.func23, by kernel_rfl, by kernel_rfl⟩ (by
  intro args ins out h hp
  unfold spd23 at h
  split at h
  · rename_i k f bit s
    cases h
    exact vcFun_ok (C := Cd23) good sndd59 Meth.none mix Go.Proofs.Tryd.func23 (annd23 k f bit s) (fun hw => by rw [← vcd23 k f bit s]; exact pured23 k f bit s hp (hwd16b hw))
  · cases h)

theorem sndd15 : Sound Go.Proofs.Tryd.prog Gd15 := sndd23.add ⟨_, Go.Proofs.Tryd.func15, by kernel_rfl, by kernel_rfl⟩ (by
  intro args ins out h hp
  unfold spd15 at h
  split at h
  · rename_i k f bit s
    cases h
    exact vcFun_ok (C := Cd15) good sndd23 Meth.none mix Go.Proofs.Tryd.func15 (annd15 k f bit s) (fun hw => by rw [← vcd15 k f bit s]; exact pured15 k f bit s (hwd16b hw))
  · cases h)

theorem sndd25 : Sound Go.Proofs.Tryd.prog Gd25 := sndd15.add ⟨_, Go.Proofs.Tryd.func25, by kernel_rfl, by kernel_rfl⟩ (by
  intro args ins out h hp
  unfold spd25 at h
  split at h
  · rename_i k f bit s
    cases h
    exact vcFun_ok (C := Cd25) good sndd15 Meth.none mix Go.Proofs.Tryd.func25 (annd25 k f bit s) (fun hw => by rw [← vcd25 k f bit s]; exact pured25 k f bit s)
  · cases h)

end Go.SL.A

/- The search of a frame's bit finds the least far vector; it is the document's. -/
namespace Go.SL.A
open Go Go.SL Go.SL.S
set_option maxRecDepth 100000

def numsP : Nat → List Int
  | 0 => []
  | j + 1 => numsF j
theorem numsP_zero : numsP 1 = numsP 0 ++ [0] := rfl
theorem numsP_succ {j : Nat} (h : 0 < j) : numsP (j + 1) = numsP j ++ [(j : Int), -(j : Int)] := by
  obtain ⟨i, rfl⟩ : ∃ i, j = i + 1 := ⟨j - 1, by omega⟩
  rfl
theorem sz13_nat {j : Nat} (h : j ≤ 12) : (sz13 (j : Int)).toNat = j ∧ (sz13 (-(j : Int))).toNat = j := by
  rw [sz13_small (by omega) (by omega), sz13_small (by omega) (by omega)]; omega
theorem set_take {y : List Int} {i : Nat} (h : i < y.length) (v : Int) : (List.set y i v).take (i + 1) = y.take i ++ [v] := by
  rw [take_snoc' 0 (by rw [List.length_set]; exact h), List.take_set_of_le (Nat.le_refl i), List.getD_eq_getElem?_getD, List.getElem?_set_self h]; rfl

/-- What is looked at from a place on. -/
def lookL (m K : Nat) (p : List Int) : List (List Int) := (allV (m + 1) K).map (p ++ ·)
structure Ok3 (m i K : Nat) (y : List Int) (x : S.SR) (st : ES) : Prop where
  v : st.2 = (lookL m K (y.take i)).foldl lookF x
  l : st.1.length = 4
  t : st.1.take i = y.take i
def lookP (m K : Nat) (p : List Int) (j : Nat) : List (List Int) := ((numsP j).flatMap fun z => (allV (m + 1) (K - (sz13 z).toNat)).map (z :: ·)).map (p ++ ·)
structure Ok4 (m i K : Nat) (y : List Int) (x : S.SR) (j : Nat) (st : ES) : Prop where
  v : st.2 = (lookP m K (y.take i) j).foldl lookF x
  l : st.1.length = 4
  t : st.1.take i = y.take i

theorem lookL_at (m K : Nat) (p : List Int) (v : Int) : lookL m K (p ++ [v]) = ((allV (m + 1) K).map (v :: ·)).map (p ++ ·) := by
  unfold lookL
  rw [List.map_map]
  refine List.map_congr_left fun z _ => ?_
  show p ++ [v] ++ z = p ++ v :: z
  rw [List.append_assoc]; rfl

theorem each_ok3 : ∀ (m i K : Nat) (y : List Int) (x : S.SR), i + m = 3 → y.length = 4 → K ≤ 12 → Ok3 m i K y x (eachF m (i : Int) (K : Int) (y, x))
  | 0, i, K, y, x, hi, hl, hK => by
    have hi : i = 3 := by omega
    subst hi
    have e1 : ∀ v, List.set y 3 v = y.take 3 ++ [v] := fun v => by
      have := set_take (y := y) (i := 3) (by omega) v
      rw [List.take_of_length_le (by rw [List.length_set]; omega)] at this
      exact this
    have hv := allV_one K hK
    show Ok3 0 3 K y x (leafF ((3 : Nat) : Int) (K : Int) (y, x))
    unfold leafF
    simp only [Int.toNat_natCast, List.set_set]
    by_cases h : 0 < (K : Int)
    · rw [if_pos (by omega)] at hv
      rw [if_pos h]
      refine ⟨?_, by rw [List.length_set]; exact hl, by rw [List.take_set_of_le (Nat.le_refl 3)]⟩
      unfold lookL
      rw [hv, e1, e1]; rfl
    · rw [if_neg (by omega)] at hv
      rw [if_neg h]
      refine ⟨?_, by rw [List.length_set]; exact hl, by rw [List.take_set_of_le (Nat.le_refl 3)]⟩
      unfold lookL
      rw [hv, e1]; rfl
  | m + 1, i, K, y, x, hi, hl, hK => by
    have sub : ∀ (j : Nat) (v : Int) (st : ES), j ≤ K → st.1.length = 4 → st.1.take i = y.take i → 
        (eachF m (((i + 1 : Nat)) : Int) ((K : Int) - (j : Int)) (List.set st.1 i v, st.2)).2 = ((((allV (m + 1) (K - j)).map (v :: ·)).map (y.take i ++ ·)).foldl lookF st.2) ∧
        (eachF m (((i + 1 : Nat)) : Int) ((K : Int) - (j : Int)) (List.set st.1 i v, st.2)).1.length = 4 ∧ (eachF m (((i + 1 : Nat)) : Int) ((K : Int) - (j : Int)) (List.set st.1 i v, st.2)).1.take i = y.take i := fun j v st hj h1 h2 => by
      have ih := each_ok3 m (i + 1) (K - j) (List.set st.1 i v) st.2 (by omega) (by rw [List.length_set]; exact h1) (by omega)
      rw [show ((K - j : Nat) : Int) = (K : Int) - (j : Int) by omega] at ih
      refine ⟨?_, ih.l, ?_⟩
      · rw [ih.v, set_take (by omega), h2, lookL_at]
      · have := congrArg (List.take i) ih.t
        rw [List.take_take, List.take_take, Nat.min_eq_left (by omega), List.take_set_of_le (Nat.le_refl i), h2] at this
        exact this
    have go : ∀ j, j ≤ K + 1 → Ok4 m i K y x j (goF (eachF m (((i + 1 : Nat)) : Int)) (i : Int) (K : Int) (y, x) j) := by
      intro j
      induction j with
      | zero => intro _; exact ⟨rfl, hl, rfl⟩
      | succ j ih =>
        intro hj
        have ih := ih (by omega)
        generalize hst : goF (eachF m (((i + 1 : Nat)) : Int)) (i : Int) (K : Int) (y, x) j = st at ih
        have hsz := sz13_nat (j := j) (by omega)
        obtain ⟨p1, p2, p3⟩ := sub j (j : Int) st (by omega) ih.l ih.t
        rw [goF, hst]
        unfold negF posF
        rw [Int.toNat_natCast]
        by_cases h0 : 0 < (j : Int)
        · rw [if_pos h0]
          obtain ⟨q1, q2, q3⟩ := sub j (-(j : Int)) _ (by omega) p2 p3
          refine ⟨?_, q2, q3⟩
          rw [q1, p1, ih.v]
          unfold lookP
          rw [numsP_succ (by omega), List.flatMap_append, List.map_append, List.foldl_append]
          simp only [List.flatMap_cons, List.flatMap_nil, List.append_nil, List.map_append, List.foldl_append]
          rw [hsz.1, hsz.2]
        · rw [if_neg h0]
          refine ⟨?_, p2, p3⟩
          rw [p1, ih.v]
          have : j = 0 := by omega
          subst this
          unfold lookP
          rw [numsP_zero, List.flatMap_append, List.map_append, List.foldl_append]
          simp only [List.flatMap_cons, List.flatMap_nil, List.append_nil]
          rfl
    have g := go (K + 1) (Nat.le_refl _)
    have e : eachF (m + 1) (i : Int) (K : Int) (y, x) = goF (eachF m (((i + 1 : Nat)) : Int)) (i : Int) (K : Int) (y, x) (K + 1) := by
      show goF (eachF m ((i : Int) + 1)) (i : Int) (K : Int) (y, x) ((K : Int) + 1).toNat = _
      rw [show ((i : Int) + 1) = ((i + 1 : Nat) : Int) by omega, show ((K : Int) + 1).toNat = K + 1 by omega]
    rw [e]
    refine ⟨?_, g.l, g.t⟩
    rw [g.v]
    show _ = ((allV (m + 1 + 1) K).map (y.take i ++ ·)).foldl lookF x
    rw [allV]; rfl

theorem srch_fold (y c : List Int) (m : Int) {n : Int} (hn : 0 ≤ n ∧ n ≤ 12) : srch y c m n = (allV 4 n.toNat).foldl lookF (y, c, m, List.replicate 4 0, -1) := by
  have h := (each_ok3 3 0 n.toNat (List.replicate 4 0) (y, c, m, List.replicate 4 0, -1) rfl rfl (by omega)).v
  rw [show ((n.toNat : Nat) : Int) = n by omega] at h
  unfold srch
  refine h.trans ?_
  unfold lookL
  rw [List.take_zero]
  have : (fun z : List Int => [] ++ z) = id := rfl
  rw [this, List.map_id]

theorem farM_pos (y z : List Int) : ∀ n, 0 ≤ farM y z n
  | 0 => by simp [farM]
  | n + 1 => by
    have := farM_pos y z n
    rw [farM]; unfold absZ; omega
theorem betF_iff {x : S.SR} {z : List Int} : betF x z = true ↔ 2 ≤ dotZ z x.2.1 4 ∧ farM x.1 z 4 ≤ x.2.2.1 ∧ (x.2.2.2.2 < 0 ∨ farM x.1 z 4 < x.2.2.2.2) := by
  unfold betF
  rw [Bool.and_eq_true, Bool.and_eq_true, Bool.or_eq_true, decide_eq_true_eq, decide_eq_true_eq, decide_eq_true_eq, decide_eq_true_eq]

/-- What a search has found. -/
structure Fnd (y c : List Int) (m : Int) (L : List (List Int)) (x : S.SR) : Prop where
  ey : x.1 = y
  ec : x.2.1 = c
  em : x.2.2.1 = m
  no : x.2.2.2.2 < 0 → ∀ z ∈ L, ¬ (2 ≤ dotZ z c 4 ∧ farM y z 4 ≤ m)
  yes : ¬ x.2.2.2.2 < 0 → x.2.2.2.1 ∈ L ∧ 2 ≤ dotZ x.2.2.2.1 c 4 ∧ farM y x.2.2.2.1 4 ≤ m ∧ x.2.2.2.2 = farM y x.2.2.2.1 4 ∧ ∀ z ∈ L, 2 ≤ dotZ z c 4 → farM y z 4 ≤ m → farM y x.2.2.2.1 4 ≤ farM y z 4
theorem Fnd.step {y c : List Int} {m : Int} {L : List (List Int)} {x : S.SR} (h : Fnd y c m L x) (z : List Int) : Fnd y c m (L ++ [z]) (lookF x z) := by
  have hp := farM_pos y z 4
  unfold lookF
  cases hb : betF x z with
  | true =>
    rw [if_pos rfl]
    obtain ⟨b1, b2, b3⟩ := betF_iff.1 hb
    rw [h.ec] at b1
    rw [h.ey, h.em] at b2
    rw [h.ey] at b3
    refine ⟨h.ey, h.ec, h.em, fun hf => ?_, fun _ => ?_⟩
    · have hf : farM x.1 z 4 < 0 := hf
      rw [h.ey] at hf; omega
    · refine ⟨List.mem_append_right _ (List.mem_singleton.2 rfl), b1, b2, by show farM x.1 z 4 = _; rw [h.ey], fun w hw h1 h2 => ?_⟩
      show farM y z 4 ≤ _
      rcases List.mem_append.1 hw with hw | hw
      · by_cases hn : x.2.2.2.2 < 0
        · exact absurd ⟨h1, h2⟩ (h.no hn w hw)
        · obtain ⟨-, -, -, y4, y5⟩ := h.yes hn
          have := y5 w hw h1 h2
          omega
      · rw [List.mem_singleton.1 hw]; exact Int.le_refl _
  | false =>
    rw [if_neg (by simp)]
    have hnb : ¬ (2 ≤ dotZ z x.2.1 4 ∧ farM x.1 z 4 ≤ x.2.2.1 ∧ (x.2.2.2.2 < 0 ∨ farM x.1 z 4 < x.2.2.2.2)) := fun hh => by rw [betF_iff.2 hh] at hb; cases hb
    rw [h.ec, h.ey, h.em] at hnb
    refine ⟨h.ey, h.ec, h.em, fun hf w hw => ?_, fun hf => ?_⟩
    · rcases List.mem_append.1 hw with hw | hw
      · exact h.no hf w hw
      · rw [List.mem_singleton.1 hw]
        exact fun hh => hnb ⟨hh.1, hh.2, Or.inl hf⟩
    · obtain ⟨y1, y2, y3, y4, y5⟩ := h.yes hf
      refine ⟨List.mem_append_left _ y1, y2, y3, y4, fun w hw h1 h2 => ?_⟩
      rcases List.mem_append.1 hw with hw | hw
      · exact y5 w hw h1 h2
      · rw [List.mem_singleton.1 hw] at h1 h2 ⊢
        have : ¬ farM y z 4 < x.2.2.2.2 := fun hh => hnb ⟨h1, h2, Or.inr hh⟩
        omega
theorem Fnd.fold {y c : List Int} {m : Int} : ∀ (L M : List (List Int)) {x : S.SR}, Fnd y c m M x → Fnd y c m (M ++ L) (L.foldl lookF x)
  | [], M, x, h => by rw [List.append_nil]; exact h
  | z :: L, M, x, h => by
    have := Fnd.fold L (M ++ [z]) (h.step z)
    rw [List.append_assoc] at this
    exact this
theorem srch_found (y c : List Int) (m : Int) {n : Int} (hn : 0 ≤ n ∧ n ≤ 12) : Fnd y c m (allV 4 n.toNat) (srch y c m n) := by
  rw [srch_fold y c m hn]
  have h0 : Fnd y c m [] (y, c, m, List.replicate 4 0, -1) := ⟨rfl, rfl, rfl, fun _ z hz => (List.not_mem_nil hz).elim, fun h => absurd (show (-1 : Int) < 0 by decide) h⟩
  have := Fnd.fold (allV 4 n.toNat) [] h0
  rw [List.nil_append] at this
  exact this
end Go.SL.A

/- What is put into a frame, and that it is the document's. -/
namespace Go.SL.A
open Go Go.SL Go.SL.S
set_option maxRecDepth 100000

theorem four {y : List Int} (h : y.length = 4) : ∃ a b c d, y = [a, b, c, d] := by
  match y, h with
  | [a, b, c, d], _ => exact ⟨a, b, c, d, rfl⟩
theorem far4 (a b c d p q r t : Int) : farM [a, b, c, d] [p, q, r, t] 4 = absZ (a - p) + absZ (b - q) + absZ (c - r) + absZ (d - t) := by
  show 0 + absZ (a - p) + absZ (b - q) + absZ (c - r) + absZ (d - t) = _
  omega
theorem far_self {y : List Int} (h : y.length = 4) : farM y y 4 = 0 := by
  obtain ⟨a, b, c, d, rfl⟩ := four h
  rw [far4]; unfold absZ; omega
theorem far_zero {y z : List Int} (hy : y.length = 4) (hz : z.length = 4) (h : farM y z 4 ≤ 0) : z = y := by
  obtain ⟨a, b, c, d, rfl⟩ := four hy
  obtain ⟨p, q, r, t, rfl⟩ := four hz
  rw [far4] at h; unfold absZ at h
  rw [show p = a by omega, show q = b by omega, show r = c by omega, show t = d by omega]
theorem set_same {L : List (List Int)} {b : Nat} {y : List Int} (h : L.getD b (List.replicate 4 0) = y) (hb : b < L.length) : List.set L b y = L := by
  rw [List.getD_eq_getElem?_getD, List.getElem?_eq_getElem hb, Option.getD_some] at h
  rw [← h]; exact List.set_getElem_self hb
theorem pulses_sz {y : List Int} (hl : y.length = 4) (h : sumSz y ≤ 12) : pulsesF y = sumSz y := by
  unfold pulsesF; rw [if_neg (by omega)]; omega

structure PutOK (y d : List Int) (m : Int) (s : SHM) (b : Nat) (R : SHM × Bool) (y' : List Int) : Prop where
  sh : R.1 = (s.1, List.set s.2 b y')
  len : y'.length = 4
  sz : sumSz y' = sumSz y
  ok : R.2 = decide (2 ≤ dotZ y' d 4)
  no : R.2 = false → y' = y
  was : 2 ≤ dotZ y d 4 → y' = y
  near : farM y y' 4 ≤ m ∨ y' = y
  least : ∀ z, z.length = 4 → sumSz z = sumSz y → 2 ≤ dotZ z d 4 → farM y z 4 ≤ m → R.2 = true ∧ farM y y' 4 ≤ farM y z 4

theorem put_ok {y d : List Int} {m : Int} {s : SHM} {b : Nat} (hl : y.length = 4) (hq : sumSz y ≤ 12) (hrow : s.2.getD b (List.replicate 4 0) = y) (hb : b < s.2.length) : ∃ y', PutOK y d m s b (putR y d m (pulsesF y) s b) y' := by
  rw [pulses_sz hl hq]
  have hfit := sumSz_fit y
  have hset := set_same hrow hb
  have hself := far_self hl
  unfold putR
  cases hg : (decide (2 ≤ dotZ y d 4) || (decide (m = 0) || decide (12 < sumSz y))) with
  | true =>
    rw [if_pos rfl]
    refine ⟨y, by rw [hset], hl, rfl, rfl, fun _ => rfl, fun _ => rfl, Or.inr rfl, fun z h1 h2 h3 h4 => ?_⟩
    have hp := farM_pos y z 4
    refine ⟨?_, by omega⟩
    rw [Bool.or_eq_true, Bool.or_eq_true, decide_eq_true_eq, decide_eq_true_eq, decide_eq_true_eq] at hg
    rcases hg with hg | hg | hg
    · exact decide_eq_true hg
    · have := far_zero hl h1 (by omega)
      rw [this] at h3
      exact decide_eq_true h3
    · omega
  | false =>
    rw [if_neg (by simp)]
    rw [Bool.or_eq_false_iff, Bool.or_eq_false_iff, decide_eq_false_iff_not, decide_eq_false_iff_not, decide_eq_false_iff_not] at hg
    obtain ⟨g1, g2, g3⟩ := hg
    have F := srch_found y d m (n := sumSz y) ⟨hfit.1, hq⟩
    generalize srch y d m (sumSz y) = x at *
    have hmem := fun z => mem_allV (n := 4) (K := (sumSz y).toNat) (z := z) (by omega)
    have eK : (((sumSz y).toNat : Nat) : Int) = sumSz y := by omega
    by_cases hf : x.2.2.2.2 < 0
    · rw [if_pos hf]
      refine ⟨y, by rw [hset], hl, rfl, (decide_eq_false g1).symm, fun _ => rfl, fun _ => rfl, Or.inr rfl, fun z h1 h2 h3 h4 => ?_⟩
      exact absurd ⟨h3, h4⟩ (F.no hf z ((hmem z).2 ⟨h1, by omega⟩))
    · rw [if_neg hf]
      obtain ⟨y1, y2, y3, y4, y5⟩ := F.yes hf
      obtain ⟨l1, l2⟩ := (hmem _).1 y1
      refine ⟨x.2.2.2.1, rfl, l1, by omega, (decide_eq_true y2).symm, fun h => (by cases h), fun h => absurd h g1, Or.inl y3, fun z h1 h2 h3 h4 => ⟨rfl, ?_⟩⟩
      exact y5 z ((hmem z).2 ⟨h1, by omega⟩) h3 h4

theorem refTo_fold (y c : List Int) (g room : Int) (L : List (List Int)) : ∀ i, i ≤ L.length → refTo y c g room L i = (L.take i).foldl (refOne y c g room) (false, 0, y)
  | 0, _ => rfl
  | i + 1, h => by rw [refTo, refTo_fold y c g room L i (by omega), take_snoc' (List.replicate 4 0) (by omega), List.foldl_append]; rfl
structure RelM (y c : List Int) (m : Int) (x : S.SR) (r : RS) : Prop where
  ey : x.1 = y
  ec : x.2.1 = c
  em : x.2.2.1 = m
  no : r.1 = false → x.2.2.2.2 < 0 ∧ r.2.2 = y
  yes : r.1 = true → x.2.2.2.2 = r.2.1 ∧ 0 ≤ r.2.1 ∧ x.2.2.2.1 = r.2.2
theorem RelM.step {y c : List Int} {m g room : Int} (hg : ∀ z, farM y z 4 * g ≤ room ↔ farM y z 4 ≤ m) {x : S.SR} {r : RS} (h : RelM y c m x r) (z : List Int) : RelM y c m (lookF x z) (refOne y c g room r z) := by
  have hp := farM_pos y z 4
  have e : (decide (2 ≤ dotZ z c 4) && (decide (farM y z 4 * g ≤ room) && (!r.1 || decide (farM y z 4 < r.2.1)))) = betF x z := by
    unfold betF
    rw [h.ec, h.ey, h.em]
    have e2 : decide (farM y z 4 * g ≤ room) = decide (farM y z 4 ≤ m) := by
      by_cases hh : farM y z 4 ≤ m
      · rw [decide_eq_true hh, decide_eq_true ((hg z).2 hh)]
      · rw [decide_eq_false hh, decide_eq_false (fun h' => hh ((hg z).1 h'))]
    have e3 : (!r.1 || decide (farM y z 4 < r.2.1)) = (decide (x.2.2.2.2 < 0) || decide (farM y z 4 < x.2.2.2.2)) := by
      cases hr : r.1 with
      | false =>
        have := (h.no hr).1
        rw [decide_eq_true this]; rfl
      | true =>
        obtain ⟨h1, h2, -⟩ := h.yes hr
        rw [h1, decide_eq_false (show ¬ r.2.1 < 0 by omega)]; rfl
    rw [e2, e3]
  unfold refOne lookF
  rw [e]
  cases betF x z with
  | true =>
    rw [if_pos rfl, if_pos rfl]
    exact ⟨h.ey, h.ec, h.em, fun h' => (by cases h'), fun _ => ⟨by show farM x.1 z 4 = _; rw [h.ey], hp, rfl⟩⟩
  | false =>
    rw [if_neg (by simp), if_neg (by simp)]
    exact h
theorem RelM.fold {y c : List Int} {m g room : Int} (hg : ∀ z, farM y z 4 * g ≤ room ↔ farM y z 4 ≤ m) : ∀ (L : List (List Int)) {x : S.SR} {r : RS}, RelM y c m x r → RelM y c m (L.foldl lookF x) (L.foldl (refOne y c g room) r)
  | [], _, _, h => h
  | z :: L, _, _, h => RelM.fold hg L (h.step hg z)

theorem ref_eq {y d : List Int} {m g room : Int} {s : SHM} {b : Nat} (hl : y.length = 4) (ho : okRow y = true) (hq : sumSz y ≤ 12) (hrow : s.2.getD b (List.replicate 4 0) = y) (hb : b < s.2.length) (hg : ∀ z, farM y z 4 * g ≤ room ↔ farM y z 4 ≤ m) : putR y d m (pulsesF y) s b = refR y d g room s b := by
  rw [pulses_sz hl hq]
  have hfit := sumSz_fit y
  have hset := set_same hrow hb
  have hs : sumAb y 4 = sumSz y := by rw [sumAb_sz y 4 (by omega) ho, List.take_of_length_le (by omega)]
  have h0 : RelM y d m (y, d, m, List.replicate 4 0, -1) (false, 0, y) := ⟨rfl, rfl, rfl, fun _ => ⟨(show (-1 : Int) < 0 by decide), rfl⟩, fun h => (by cases h)⟩
  have R := RelM.fold hg (allV 4 (sumSz y).toNat) h0
  have F := srch_found y d m (n := sumSz y) ⟨hfit.1, hq⟩
  have eF := srch_fold y d m (n := sumSz y) ⟨hfit.1, hq⟩
  have eR : refTo y d g room (allF (sumAb y 4).toNat) (allF (sumAb y 4).toNat).length = (allV 4 (sumSz y).toNat).foldl (refOne y d g room) (false, 0, y) := by
    rw [refTo_fold _ _ _ _ _ _ (Nat.le_refl _), List.take_of_length_le (Nat.le_refl _), hs, all_eq (by omega)]
  unfold putR refR
  rw [eR]
  rw [← eF] at R
  generalize (allV 4 (sumSz y).toNat).foldl (refOne y d g room) (false, 0, y) = r at *
  generalize srch y d m (sumSz y) = x at *
  by_cases h1 : 2 ≤ dotZ y d 4
  · rw [if_pos h1, decide_eq_true h1, if_pos (by simp)]
  rw [if_neg h1, decide_eq_false h1]
  have key : r.1 = false → (s, false) = ((s.1, List.set s.2 b r.2.2), r.1) := fun hr => by
    rw [(R.no hr).2, hset, hr]
  by_cases h2 : m = 0
  · rw [if_pos (by simp [h2])]
    cases hr : r.1 with
    | false => have := key hr; rw [hr] at this; exact this
    | true =>
      obtain ⟨a1, a2, a3⟩ := R.yes hr
      obtain ⟨y1, y2, y3, y4, y5⟩ := F.yes (by omega)
      have l1 := ((mem_allV (n := 4) (K := (sumSz y).toNat) (by omega)).1 y1).1
      rw [far_zero hl l1 (by omega)] at y2
      exact absurd y2 h1
  · rw [if_neg (by simp [h2]; omega)]
    cases hr : r.1 with
    | false =>
      rw [if_pos (R.no hr).1]
      have := key hr; rw [hr] at this; exact this
    | true =>
      obtain ⟨a1, a2, a3⟩ := R.yes hr
      rw [if_neg (by omega), a3]
end Go.SL.A

/- What is put into a frame, told of the whole shape. -/
namespace Go.SL.A
open Go Go.SL Go.SL.S
set_option maxRecDepth 100000

theorem dot_neg (y c : List Int) : ∀ n, dotZ y (negC c) n = - dotZ y c n
  | 0 => rfl
  | n + 1 => by rw [dotZ, dotZ, dot_neg y c n, negC_at, Int.mul_neg]; omega
theorem dot_chip (y c : List Int) (bit : Bool) (n : Nat) : dotZ y (chipB bit c) n = if bit then - dotZ y c n else dotZ y c n := by
  cases bit
  · rfl
  · exact dot_neg y c n
theorem okRow_of {y : List Int} (h : sumSz y ≤ 12) : okRow y = true := by
  refine List.all_eq_true.2 fun x hx => ?_
  obtain ⟨i, hi, e⟩ := List.getElem_of_mem hx
  have := sumSz_get h i
  rw [List.getD_eq_getElem?_getD, List.getElem?_eq_getElem hi, Option.getD_some, e] at this
  exact okN_iff.2 this
theorem held_set {Y : List (List Int)} {y : List Int} (h : heldB Y = true) (hy : okRow y = true) (b : Nat) : heldB (List.set Y b y) = true := by
  refine List.all_eq_true.2 fun x hx => ?_
  rcases List.mem_or_eq_of_mem_set hx with hx | rfl
  · exact List.all_eq_true.1 h x hx
  · exact hy
theorem row_set {Y : List (List Int)} {b : Nat} (hb : b < Y.length) (y : List Int) : (List.set Y b y).getD b (List.replicate 4 0) = y := by
  rw [List.getD_eq_getElem?_getD, List.getElem?_set_self hb]; rfl

structure PutW (k : List Int) (f : Int) (bit : Bool) (s : SHM) (y' : List Int) : Prop where
  o : PutOK (rowZ s.2 (bandK k f)) (chipB bit (chipsK k f)) (movF s.1 (bandK k f)) s (bandK k f).toNat (putM k f bit s) y'
  held : heldB (putM k f bit s).1.2 = true
  corr : corrF k f (putM k f bit s).1 = dotZ y' (chipsK k f) 4
  row : rowZ (putM k f bit s).1.2 (bandK k f) = y'
  l8 : (putM k f bit s).1.2.length = 8
  l4 : ∀ y ∈ (putM k f bit s).1.2, y.length = 4
  sd : (putM k f bit s).1.1 = s.1
theorem putM_ok (k : List Int) (f : Int) (bit : Bool) {s : SHM} (l8 : s.2.length = 8) (l4 : ∀ y ∈ s.2, y.length = 4) (hh : heldB s.2 = true) (hq : sumSz (rowZ s.2 (bandK k f)) ≤ 12) : ∃ y', PutW k f bit s y' := by
  have hb := band_fit k f
  have hyl : (rowZ s.2 (bandK k f)).length = 4 := l4 _ (getD_mem (by omega))
  have hP : putM k f bit s = putR (rowZ s.2 (bandK k f)) (chipB bit (chipsK k f)) (movF s.1 (bandK k f)) (pulsesF (rowZ s.2 (bandK k f))) s (bandK k f).toNat := by
    unfold putM; rw [if_pos hh]
  obtain ⟨y', o⟩ := put_ok (d := chipB bit (chipsK k f)) (m := movF s.1 (bandK k f)) (s := s) (b := (bandK k f).toNat) hyl hq rfl (by omega)
  rw [← hP] at o
  have e2 : (putM k f bit s).1.2 = List.set s.2 (bandK k f).toNat y' := by rw [o.sh]
  have hbl : (bandK k f).toNat < s.2.length := by omega
  have hrow : rowZ (putM k f bit s).1.2 (bandK k f) = y' := by rw [e2]; exact row_set hbl y'
  have hheld : heldB (putM k f bit s).1.2 = true := by rw [e2]; exact held_set hh (okRow_of (by rw [o.sz]; exact hq)) _
  refine ⟨y', o, hheld, ?_, hrow, by rw [e2, List.length_set]; exact l8, ?_, by rw [o.sh]⟩
  · unfold corrF; rw [if_pos hheld, hrow]
  · rw [e2]
    intro y hy
    rcases List.mem_or_eq_of_mem_set hy with hy | rfl
    · exact l4 y hy
    · exact o.len
def wantF (bit : Bool) : Int := if bit then -1 else 1
theorem spk_want (c : Int) (bit : Bool) : (spkF c = wantF bit) ↔ 2 ≤ (if bit then -c else c) := by
  cases bit <;> unfold spkF wantF <;> simp <;> split <;> (try split) <;> omega
theorem PutW.spk {k : List Int} {f : Int} {bit : Bool} {s : SHM} {y' : List Int} (h : PutW k f bit s y') : (putM k f bit s).2 = true ↔ spkF (corrF k f (putM k f bit s).1) = wantF bit := by
  rw [h.corr, spk_want, h.o.ok, decide_eq_true_eq, dot_chip]
theorem chips_one (k : List Int) (f : Int) {i : Nat} (hi : i < 4) : (chipsK k f).getD i 0 = 1 ∨ (chipsK k f).getD i 0 = -1 := by
  unfold chipsK
  have h := chipK_at (numK k 99 (f % 1016)) hi
  rw [List.getD_eq_getElem?_getD, h, Option.getD_some]
  split
  · exact Or.inr rfl
  · exact Or.inl rfl
theorem chipB_one (k : List Int) (f : Int) (bit : Bool) {i : Nat} (hi : i < 4) : (chipB bit (chipsK k f)).getD i 0 = 1 ∨ (chipB bit (chipsK k f)).getD i 0 = -1 := by
  have := chips_one k f hi
  cases bit with
  | false => exact this
  | true =>
    show (negC _).getD i 0 = 1 ∨ _
    unfold chipB
    rw [if_pos rfl, negC_at]
    omega
theorem dot4 (a b c d : Int) (x : List Int) : dotZ [a, b, c, d] x 4 = a * x.getD 0 0 + b * x.getD 1 0 + c * x.getD 2 0 + d * x.getD 3 0 := by
  show 0 + a * x.getD 0 0 + b * x.getD 1 0 + c * x.getD 2 0 + d * x.getD 3 0 = _
  omega
end Go.SL.A
