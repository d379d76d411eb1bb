/- MarkPlays returns true, whatever its arguments, which read afterwards as before: no condition but that the package-level table holds what the program's text lays (tied by the card). -/
import Derived.Test.YthhfccnhkadkcaaDoorRows
import Derived.Test.YthhfccnhkadkcaaDoorCards
import Derived.Test.YthhfccnhkadkcaaDoorTie
import Derived.Test.YthhfccnhkadkcaaDoorShape
import Derived.Test.YthhfccnhkadkcaaDoorKb
import Derived.Test.YthhfccnhkadkcaaDoorT

/- Functions and what they are held to do: bound to their code. -/
namespace Go.SL.A
open Go Go.SL Go.SL.S
set_option maxRecDepth 100000
noncomputable def Cd3 : Ctx := ⟨Go.Proofs.Tryd.prog, D, Gd14, (fun _ _ => none), fun r => match r with | 14 => [2] | _ => []⟩
def annd3 (_k : List Int) (_f : Int) (_bit : Bool) (s : List Int × List (List Int)) : Nat → St → Option Ann := fun id S => match id with | 0 => some ⟨Nat, [1, 2, 4, 7], [0, 1], fun i => [(10, .v (.int .i64) (i : Int)), (9, .v .bool (heldB (s.2.take i)))], fun _ => [], fun i => i ≤ 8, fun i => 8 - i⟩ | _ => some ⟨Nat, [1, 2, 4, 7, 10], [0, 1], fun j => [(11, .v (.int .i64) (j : Int)), (9, .v .bool (heldB (s.2.take (S.i 10).toNat) && okRow ((List.getD s.2 (S.i 10).toNat (List.replicate 4 0)).take j)))], fun _ => [], fun j => j ≤ 4, fun j => 4 - j⟩
def outd3 (_k : List Int) (_f : Int) (_bit : Bool) (_s : List Int × List (List Int)) : COut := ⟨[], .v .bool true, [], []⟩
def spd3 : Spec := fun args ins => match args, ins with
  | [⟨.arr 16 (.int .u8), k⟩, ⟨.int .i64, f⟩, ⟨.bool, bit⟩, ⟨(.cons (.arr 8 (.int .i64)) (.last (.arr 8 (.arr 4 (.int .i64))))), s⟩], [] => some (outd3 k f bit s)
  | _, _ => none
def Gd3 := addG Gd14 3 spd3
def Pd3 (k : List Int) (f : Int) (bit : Bool) (s : List Int × List (List Int)) : Prop :=
  ∃ (x : Nat), ((f = f ∧ bit = bit ∧ (0 : Nat) = (0 : Nat) ∧ (0 : Nat) = (0 : Nat) ∧ true = heldB (List.take x (Prod.snd s)) ∧ (0 : Int) = (↑x : Int) ∧ k = k ∧ false = false ∧ Prod.fst s = Prod.fst s ∧ Prod.snd s = Prod.snd
  s ∧ false = false) ∧ x ≤ (8 : Nat)) ∧ ∀ (x : Nat), x ≤ (8 : Nat) → IntKind.min IntKind.i64 ≤ (↑x : Int) ∧ (↑x : Int) ≤ IntKind.max IntKind.i64 → bif decide ((↑x : Int) < (8 : Int)) then ∃ (x_1 : Nat), ((f = f ∧ bit = bit
  ∧ (0 : Nat) = (0 : Nat) ∧ (0 : Nat) = (0 : Nat) ∧ heldB (List.take x (Prod.snd s)) = (heldB (List.take (Int.toNat (↑x : Int)) (Prod.snd s)) && okRow (List.take x_1 (List.getD (Prod.snd s) (Int.toNat (↑x : Int))
  (List.replicate (4 : Nat) (0 : Int))))) ∧ (↑x : Int) = (↑x : Int) ∧ (0 : Int) = (↑x_1 : Int) ∧ k = k ∧ false = false ∧ Prod.fst s = Prod.fst s ∧ Prod.snd s = Prod.snd s ∧ false = false) ∧ x_1 ≤ (4 : Nat)) ∧ ∀ (x_2 : Nat),
  x_2 ≤ (4 : Nat) → IntKind.min IntKind.i64 ≤ (↑x_2 : Int) ∧ (↑x_2 : Int) ≤ IntKind.max IntKind.i64 → bif decide ((↑x_2 : Int) < (4 : Int)) then ∀ (b : Bool), (heldB (List.take (Int.toNat (↑x : Int)) (Prod.snd s)) && okRow
  (List.take x_2 (List.getD (Prod.snd s) (Int.toNat (↑x : Int)) (List.replicate (4 : Nat) (0 : Int))))) = b → ∀ (b_1 : Bool), (bif b then decide ((-12 : Int) ≤ List.getD (List.getD (Prod.snd s) (Int.toNat (↑x : Int))
  (List.replicate (4 : Nat) (0 : Int))) (Int.toNat (↑x_2 : Int)) (0 : Int)) else false) = b_1 → ((b = true → b = true ∧ b = true ∧ (0 : Int) ≤ (↑x : Int) ∧ (↑x : Int) < (↑(8 : Nat) : Int)) ∧ (b = true → b = true ∧ b = true
  ∧ (0 : Int) ≤ (↑x_2 : Int) ∧ (↑x_2 : Int) < (↑(4 : Nat) : Int)) ∧ (b = true → b = true ∧ Int.toNat (↑x : Int) < (8 : Nat) ∧ Int.toNat (↑x_2 : Int) < (4 : Nat)) ∧ (b = true → b = true) ∧ (b = true → b = true) ∧ (b_1 = true
  → b_1 = true ∧ b_1 = true ∧ (0 : Int) ≤ (↑x : Int) ∧ (↑x : Int) < (↑(8 : Nat) : Int)) ∧ (b_1 = true → b_1 = true ∧ b_1 = true ∧ (0 : Int) ≤ (↑x_2 : Int) ∧ (↑x_2 : Int) < (↑(4 : Nat) : Int)) ∧ (b_1 = true → b_1 = true ∧
  Int.toNat (↑x : Int) < (8 : Nat) ∧ Int.toNat (↑x_2 : Int) < (4 : Nat)) ∧ (b_1 = true → b_1 = true) ∧ (b_1 = true → b_1 = true)) ∧ ∃ (y : Nat), (f = f ∧ bit = bit ∧ (0 : Nat) = (0 : Nat) ∧ (0 : Nat) = (0 : Nat) ∧ (bif b_1
  then decide (List.getD (List.getD (Prod.snd s) (Int.toNat (↑x : Int)) (List.replicate (4 : Nat) (0 : Int))) (Int.toNat (↑x_2 : Int)) (0 : Int) ≤ (12 : Int)) else false) = (heldB (List.take (Int.toNat (↑x : Int)) (Prod.snd
  s)) && okRow (List.take y (List.getD (Prod.snd s) (Int.toNat (↑x : Int)) (List.replicate (4 : Nat) (0 : Int))))) ∧ (↑x : Int) = (↑x : Int) ∧ IntKind.wrap IntKind.i64 ((↑x_2 : Int) + (1 : Int)) = (↑y : Int) ∧ k = k ∧ false
  = false ∧ Prod.fst s = Prod.fst s ∧ Prod.snd s = Prod.snd s ∧ false = false) ∧ y ≤ (4 : Nat) ∧ (4 : Nat) - y < (4 : Nat) - x_2 else ∃ (y : Nat), (f = f ∧ bit = bit ∧ (0 : Nat) = (0 : Nat) ∧ (0 : Nat) = (0 : Nat) ∧ (heldB
  (List.take (Int.toNat (↑x : Int)) (Prod.snd s)) && okRow (List.take x_2 (List.getD (Prod.snd s) (Int.toNat (↑x : Int)) (List.replicate (4 : Nat) (0 : Int))))) = heldB (List.take y (Prod.snd s)) ∧ IntKind.wrap IntKind.i64
  ((↑x : Int) + (1 : Int)) = (↑y : Int) ∧ k = k ∧ false = false ∧ Prod.fst s = Prod.fst s ∧ Prod.snd s = Prod.snd s ∧ false = false) ∧ y ≤ (8 : Nat) ∧ (8 : Nat) - y < (8 : Nat) - x else bif !heldB (List.take x (Prod.snd s))
  then bif decide (corrF k f (Prod.fst s, Prod.snd s) = (0 : Int)) then ∀ (b : Bool), decide (spkF (corrF k f (Prod.fst s, Prod.snd s)) = (0 : Int)) = b → ∀ (b_1 : Bool), (bif b then Ty.eqb (Ty.cons (Ty.arr (8 : Nat)
  (Ty.int IntKind.i64)) (Ty.last (Ty.arr (8 : Nat) (Ty.arr (4 : Nat) (Ty.int IntKind.i64))))) (Prod.fst (Prod.fst (putM k f bit (Prod.fst s, Prod.snd s))), Prod.snd (Prod.fst (putM k f bit (Prod.fst s, Prod.snd s)))) s else
  false) = b_1 → ((b = true → b = true ∧ b = true) ∧ (b = true → b = true) ∧ (b_1 = true → b_1 = true) ∧ (b_1 = true → b_1 = true)) ∧ (bif b_1 then !Prod.snd (putM k f bit (Prod.fst s, Prod.snd s)) else false) = true else ∀
  (b : Bool), false = b → ∀ (b_1 : Bool), (bif b then Ty.eqb (Ty.cons (Ty.arr (8 : Nat) (Ty.int IntKind.i64)) (Ty.last (Ty.arr (8 : Nat) (Ty.arr (4 : Nat) (Ty.int IntKind.i64))))) (Prod.fst (Prod.fst (putM k f bit (Prod.fst
  s, Prod.snd s))), Prod.snd (Prod.fst (putM k f bit (Prod.fst s, Prod.snd s)))) s else false) = b_1 → ((false = true → false = true) ∧ (b = true → b = true ∧ b = true) ∧ (b = true → b = true) ∧ (b_1 = true → b_1 = true) ∧
  (b_1 = true → b_1 = true)) ∧ (bif b_1 then !Prod.snd (putM k f bit (Prod.fst s, Prod.snd s)) else false) = true else ∀ (n : Int), bandK k f = n → (((0 : Int) ≤ n ∧ n < (↑(8 : Nat) : Int)) ∧ Int.toNat n < (8 : Nat) ∧
  smallV (List.getD (Prod.snd s) (Int.toNat n) (List.replicate (4 : Nat) (0 : Int))) ∧ smallV (chipsK k f)) ∧ bif decide ((2 : Int) ≤ dotZ (List.getD (Prod.snd s) (Int.toNat n) (List.replicate (4 : Nat) (0 : Int))) (chipsK
  k f) (4 : Nat)) then bif decide (dotZ (List.getD (Prod.snd s) (Int.toNat n) (List.replicate (4 : Nat) (0 : Int))) (chipsK k f) (4 : Nat) ≤ (-2 : Int)) then bif !decide (corrF k f (Prod.fst s, Prod.snd s) = dotZ (List.getD
  (Prod.snd s) (Int.toNat n) (List.replicate (4 : Nat) (0 : Int))) (chipsK k f) (4 : Nat)) then (true = false → false = true) ∧ false = true else bif !decide (spkF (corrF k f (Prod.fst s, Prod.snd s)) = (-1 : Int)) then
  false = true else bif !rightF (Prod.fst s) then (true = false → false = true) ∧ ∀ (b : Bool), Ty.eqb (Ty.cons (Ty.arr (8 : Nat) (Ty.int IntKind.i64)) (Ty.last (Ty.arr (8 : Nat) (Ty.arr (4 : Nat) (Ty.int IntKind.i64)))))
  (Prod.fst (Prod.fst (putM k f bit (Prod.fst s, Prod.snd s))), Prod.snd (Prod.fst (putM k f bit (Prod.fst s, Prod.snd s)))) s = b → ∀ (b_1 : Bool), bit = b_1 → ∀ (b_2 : Bool), (bif b_1 then true else false) = b_2 → ∀ (b_3
  : Bool), (!bit) = b_3 → (((b && b && b_1) = true → (b && b && b_1) = true) ∧ (b = true → (b && b) = true ∧ (b_1 = true → (b && b && b_1) = true)) ∧ ((b && b && !b_2) = true → (b && b && !b_2) = true) ∧ ((b && b && !b_2 &&
  (b && b && !b_2) && b_3) = true → (b && b && !b_2 && (b && b && !b_2) && b_3) = true) ∧ ((b && b && !b_2) = true → (b && b && !b_2 && (b && b && !b_2)) = true ∧ (b_3 = true → (b && b && !b_2 && (b && b && !b_2) && b_3) =
  true)) ∧ (b = true → (b && b) = true ∧ (b_2 = false → (b && b && !b_2) = true)) ∧ (b = true → b = true ∧ b = true) ∧ (b = true → b = true)) ∧ (bif b then Prod.snd (putM k f bit (Prod.fst s, Prod.snd s)) == bif b_2 then
  true else bif b_3 then false else false else false) = true else (((0 : Int) ≤ n ∧ n < (↑(8 : Nat) : Int)) ∧ Int.toNat n < (8 : Nat)) ∧ bif decide ((12 : Int) < pulsesF (List.getD (Prod.snd s) (Int.toNat n) (List.replicate
  (4 : Nat) (0 : Int)))) then ∀ (b : Bool), Ty.eqb (Ty.cons (Ty.arr (8 : Nat) (Ty.int IntKind.i64)) (Ty.last (Ty.arr (8 : Nat) (Ty.arr (4 : Nat) (Ty.int IntKind.i64))))) (Prod.fst (Prod.fst (putM k f bit (Prod.fst s,
  Prod.snd s))), Prod.snd (Prod.fst (putM k f bit (Prod.fst s, Prod.snd s)))) s = b → ∀ (b_1 : Bool), bit = b_1 → ∀ (b_2 : Bool), (bif b_1 then true else false) = b_2 → ∀ (b_3 : Bool), (!bit) = b_3 → (((b && b && b_1) =
  true → (b && b && b_1) = true) ∧ (b = true → (b && b) = true ∧ (b_1 = true → (b && b && b_1) = true)) ∧ ((b && b && !b_2) = true → (b && b && !b_2) = true) ∧ ((b && b && !b_2 && (b && b && !b_2) && b_3) = true → (b && b
  && !b_2 && (b && b && !b_2) && b_3) = true) ∧ ((b && b && !b_2) = true → (b && b && !b_2 && (b && b && !b_2)) = true ∧ (b_3 = true → (b && b && !b_2 && (b && b && !b_2) && b_3) = true)) ∧ (b = true → (b && b) = true ∧
  (b_2 = false → (b && b && !b_2) = true)) ∧ (b = true → b = true ∧ b = true) ∧ (b = true → b = true)) ∧ (bif b then Prod.snd (putM k f bit (Prod.fst s, Prod.snd s)) == bif b_2 then true else bif b_3 then false else false
  else false) = true else (heldB (Prod.snd s) = true ∧ rightF (Prod.fst s) = true ∧ pulsesF (rowZ (Prod.snd s) (bandK k f)) ≤ (12 : Int)) ∧ ∀ (b : Bool), Ty.eqb (Ty.cons (Ty.arr (8 : Nat) (Ty.int IntKind.i64)) (Ty.last
  (Ty.arr (8 : Nat) (Ty.arr (4 : Nat) (Ty.int IntKind.i64))))) (Prod.fst (Prod.fst (putM k f bit (Prod.fst s, Prod.snd s))), Prod.snd (Prod.fst (putM k f bit (Prod.fst s, Prod.snd s)))) (Prod.fst (Prod.fst (refM k f bit
  (Prod.fst s, Prod.snd s))), Prod.snd (Prod.fst (refM k f bit (Prod.fst s, Prod.snd s)))) = b → ((b = true → b = true ∧ b = true) ∧ (b = true → b = true)) ∧ (bif b then Prod.snd (putM k f bit (Prod.fst s, Prod.snd s)) ==
  Prod.snd (refM k f bit (Prod.fst s, Prod.snd s)) else false) = true else bif !decide (corrF k f (Prod.fst s, Prod.snd s) = dotZ (List.getD (Prod.snd s) (Int.toNat n) (List.replicate (4 : Nat) (0 : Int))) (chipsK k f) (4 :
  Nat)) then (true = false → false = true) ∧ false = true else bif !decide (spkF (corrF k f (Prod.fst s, Prod.snd s)) = (1 : Int)) then false = true else bif !rightF (Prod.fst s) then (true = false → false = true) ∧ ∀ (b :
  Bool), Ty.eqb (Ty.cons (Ty.arr (8 : Nat) (Ty.int IntKind.i64)) (Ty.last (Ty.arr (8 : Nat) (Ty.arr (4 : Nat) (Ty.int IntKind.i64))))) (Prod.fst (Prod.fst (putM k f bit (Prod.fst s, Prod.snd s))), Prod.snd (Prod.fst (putM k
  f bit (Prod.fst s, Prod.snd s)))) s = b → ∀ (b_1 : Bool), bit = b_1 → ∀ (b_2 : Bool), (bif b_1 then false else false) = b_2 → ∀ (b_3 : Bool), (!bit) = b_3 → (((b && b && b_1) = true → (b && b && b_1) = true) ∧ (b = true →
  (b && b) = true ∧ (b_1 = true → (b && b && b_1) = true)) ∧ ((b && b && !b_2) = true → (b && b && !b_2) = true) ∧ ((b && b && !b_2 && (b && b && !b_2) && b_3) = true → (b && b && !b_2 && (b && b && !b_2) && b_3) = true) ∧
  ((b && b && !b_2) = true → (b && b && !b_2 && (b && b && !b_2)) = true ∧ (b_3 = true → (b && b && !b_2 && (b && b && !b_2) && b_3) = true)) ∧ (b = true → (b && b) = true ∧ (b_2 = false → (b && b && !b_2) = true)) ∧ (b =
  true → b = true ∧ b = true) ∧ (b = true → b = true)) ∧ (bif b then Prod.snd (putM k f bit (Prod.fst s, Prod.snd s)) == bif b_2 then true else bif b_3 then true else false else false) = true else (((0 : Int) ≤ n ∧ n < (↑(8
  : Nat) : Int)) ∧ Int.toNat n < (8 : Nat)) ∧ bif decide ((12 : Int) < pulsesF (List.getD (Prod.snd s) (Int.toNat n) (List.replicate (4 : Nat) (0 : Int)))) then ∀ (b : Bool), Ty.eqb (Ty.cons (Ty.arr (8 : Nat) (Ty.int
  IntKind.i64)) (Ty.last (Ty.arr (8 : Nat) (Ty.arr (4 : Nat) (Ty.int IntKind.i64))))) (Prod.fst (Prod.fst (putM k f bit (Prod.fst s, Prod.snd s))), Prod.snd (Prod.fst (putM k f bit (Prod.fst s, Prod.snd s)))) s = b → ∀ (b_1
  : Bool), bit = b_1 → ∀ (b_2 : Bool), (bif b_1 then false else false) = b_2 → ∀ (b_3 : Bool), (!bit) = b_3 → (((b && b && b_1) = true → (b && b && b_1) = true) ∧ (b = true → (b && b) = true ∧ (b_1 = true → (b && b && b_1)
  = true)) ∧ ((b && b && !b_2) = true → (b && b && !b_2) = true) ∧ ((b && b && !b_2 && (b && b && !b_2) && b_3) = true → (b && b && !b_2 && (b && b && !b_2) && b_3) = true) ∧ ((b && b && !b_2) = true → (b && b && !b_2 && (b
  && b && !b_2)) = true ∧ (b_3 = true → (b && b && !b_2 && (b && b && !b_2) && b_3) = true)) ∧ (b = true → (b && b) = true ∧ (b_2 = false → (b && b && !b_2) = true)) ∧ (b = true → b = true ∧ b = true) ∧ (b = true → b =
  true)) ∧ (bif b then Prod.snd (putM k f bit (Prod.fst s, Prod.snd s)) == bif b_2 then true else bif b_3 then true else false else false) = true else (heldB (Prod.snd s) = true ∧ rightF (Prod.fst s) = true ∧ pulsesF (rowZ
  (Prod.snd s) (bandK k f)) ≤ (12 : Int)) ∧ ∀ (b : Bool), Ty.eqb (Ty.cons (Ty.arr (8 : Nat) (Ty.int IntKind.i64)) (Ty.last (Ty.arr (8 : Nat) (Ty.arr (4 : Nat) (Ty.int IntKind.i64))))) (Prod.fst (Prod.fst (putM k f bit
  (Prod.fst s, Prod.snd s))), Prod.snd (Prod.fst (putM k f bit (Prod.fst s, Prod.snd s)))) (Prod.fst (Prod.fst (refM k f bit (Prod.fst s, Prod.snd s))), Prod.snd (Prod.fst (refM k f bit (Prod.fst s, Prod.snd s)))) = b → ((b
  = true → b = true ∧ b = true) ∧ (b = true → b = true)) ∧ (bif b then Prod.snd (putM k f bit (Prod.fst s, Prod.snd s)) == Prod.snd (refM k f bit (Prod.fst s, Prod.snd s)) else false) = true else bif decide (dotZ (List.getD
  (Prod.snd s) (Int.toNat n) (List.replicate (4 : Nat) (0 : Int))) (chipsK k f) (4 : Nat) ≤ (-2 : Int)) then bif !decide (corrF k f (Prod.fst s, Prod.snd s) = dotZ (List.getD (Prod.snd s) (Int.toNat n) (List.replicate (4 :
  Nat) (0 : Int))) (chipsK k f) (4 : Nat)) then (true = false → false = true) ∧ false = true else bif !decide (spkF (corrF k f (Prod.fst s, Prod.snd s)) = (-1 : Int)) then false = true else bif !rightF (Prod.fst s) then
  (true = false → false = true) ∧ ∀ (b : Bool), Ty.eqb (Ty.cons (Ty.arr (8 : Nat) (Ty.int IntKind.i64)) (Ty.last (Ty.arr (8 : Nat) (Ty.arr (4 : Nat) (Ty.int IntKind.i64))))) (Prod.fst (Prod.fst (putM k f bit (Prod.fst s,
  Prod.snd s))), Prod.snd (Prod.fst (putM k f bit (Prod.fst s, Prod.snd s)))) s = b → ∀ (b_1 : Bool), bit = b_1 → ∀ (b_2 : Bool), (bif b_1 then true else false) = b_2 → ∀ (b_3 : Bool), (!bit) = b_3 → (((b && b && b_1) =
  true → (b && b && b_1) = true) ∧ (b = true → (b && b) = true ∧ (b_1 = true → (b && b && b_1) = true)) ∧ ((b && b && !b_2) = true → (b && b && !b_2) = true) ∧ ((b && b && !b_2 && (b && b && !b_2) && b_3) = true → (b && b
  && !b_2 && (b && b && !b_2) && b_3) = true) ∧ ((b && b && !b_2) = true → (b && b && !b_2 && (b && b && !b_2)) = true ∧ (b_3 = true → (b && b && !b_2 && (b && b && !b_2) && b_3) = true)) ∧ (b = true → (b && b) = true ∧
  (b_2 = false → (b && b && !b_2) = true)) ∧ (b = true → b = true ∧ b = true) ∧ (b = true → b = true)) ∧ (bif b then Prod.snd (putM k f bit (Prod.fst s, Prod.snd s)) == bif b_2 then true else bif b_3 then false else false
  else false) = true else (((0 : Int) ≤ n ∧ n < (↑(8 : Nat) : Int)) ∧ Int.toNat n < (8 : Nat)) ∧ bif decide ((12 : Int) < pulsesF (List.getD (Prod.snd s) (Int.toNat n) (List.replicate (4 : Nat) (0 : Int)))) then ∀ (b :
  Bool), Ty.eqb (Ty.cons (Ty.arr (8 : Nat) (Ty.int IntKind.i64)) (Ty.last (Ty.arr (8 : Nat) (Ty.arr (4 : Nat) (Ty.int IntKind.i64))))) (Prod.fst (Prod.fst (putM k f bit (Prod.fst s, Prod.snd s))), Prod.snd (Prod.fst (putM k
  f bit (Prod.fst s, Prod.snd s)))) s = b → ∀ (b_1 : Bool), bit = b_1 → ∀ (b_2 : Bool), (bif b_1 then true else false) = b_2 → ∀ (b_3 : Bool), (!bit) = b_3 → (((b && b && b_1) = true → (b && b && b_1) = true) ∧ (b = true →
  (b && b) = true ∧ (b_1 = true → (b && b && b_1) = true)) ∧ ((b && b && !b_2) = true → (b && b && !b_2) = true) ∧ ((b && b && !b_2 && (b && b && !b_2) && b_3) = true → (b && b && !b_2 && (b && b && !b_2) && b_3) = true) ∧
  ((b && b && !b_2) = true → (b && b && !b_2 && (b && b && !b_2)) = true ∧ (b_3 = true → (b && b && !b_2 && (b && b && !b_2) && b_3) = true)) ∧ (b = true → (b && b) = true ∧ (b_2 = false → (b && b && !b_2) = true)) ∧ (b =
  true → b = true ∧ b = true) ∧ (b = true → b = true)) ∧ (bif b then Prod.snd (putM k f bit (Prod.fst s, Prod.snd s)) == bif b_2 then true else bif b_3 then false else false else false) = true else (heldB (Prod.snd s) =
  true ∧ rightF (Prod.fst s) = true ∧ pulsesF (rowZ (Prod.snd s) (bandK k f)) ≤ (12 : Int)) ∧ ∀ (b : Bool), Ty.eqb (Ty.cons (Ty.arr (8 : Nat) (Ty.int IntKind.i64)) (Ty.last (Ty.arr (8 : Nat) (Ty.arr (4 : Nat) (Ty.int
  IntKind.i64))))) (Prod.fst (Prod.fst (putM k f bit (Prod.fst s, Prod.snd s))), Prod.snd (Prod.fst (putM k f bit (Prod.fst s, Prod.snd s)))) (Prod.fst (Prod.fst (refM k f bit (Prod.fst s, Prod.snd s))), Prod.snd (Prod.fst
  (refM k f bit (Prod.fst s, Prod.snd s)))) = b → ((b = true → b = true ∧ b = true) ∧ (b = true → b = true)) ∧ (bif b then Prod.snd (putM k f bit (Prod.fst s, Prod.snd s)) == Prod.snd (refM k f bit (Prod.fst s, Prod.snd s))
  else false) = true else bif !decide (corrF k f (Prod.fst s, Prod.snd s) = dotZ (List.getD (Prod.snd s) (Int.toNat n) (List.replicate (4 : Nat) (0 : Int))) (chipsK k f) (4 : Nat)) then (true = false → false = true) ∧ false
  = true else bif !decide (spkF (corrF k f (Prod.fst s, Prod.snd s)) = (0 : Int)) then false = true else bif !rightF (Prod.fst s) then (true = false → false = true) ∧ ∀ (b : Bool), Ty.eqb (Ty.cons (Ty.arr (8 : Nat) (Ty.int
  IntKind.i64)) (Ty.last (Ty.arr (8 : Nat) (Ty.arr (4 : Nat) (Ty.int IntKind.i64))))) (Prod.fst (Prod.fst (putM k f bit (Prod.fst s, Prod.snd s))), Prod.snd (Prod.fst (putM k f bit (Prod.fst s, Prod.snd s)))) s = b → ∀ (b_1
  : Bool), bit = b_1 → ∀ (b_2 : Bool), (bif b_1 then false else false) = b_2 → ∀ (b_3 : Bool), (!bit) = b_3 → (((b && b && b_1) = true → (b && b && b_1) = true) ∧ (b = true → (b && b) = true ∧ (b_1 = true → (b && b && b_1)
  = true)) ∧ ((b && b && !b_2) = true → (b && b && !b_2) = true) ∧ ((b && b && !b_2 && (b && b && !b_2) && b_3) = true → (b && b && !b_2 && (b && b && !b_2) && b_3) = true) ∧ ((b && b && !b_2) = true → (b && b && !b_2 && (b
  && b && !b_2)) = true ∧ (b_3 = true → (b && b && !b_2 && (b && b && !b_2) && b_3) = true)) ∧ (b = true → (b && b) = true ∧ (b_2 = false → (b && b && !b_2) = true)) ∧ (b = true → b = true ∧ b = true) ∧ (b = true → b =
  true)) ∧ (bif b then Prod.snd (putM k f bit (Prod.fst s, Prod.snd s)) == bif b_2 then true else bif b_3 then false else false else false) = true else (((0 : Int) ≤ n ∧ n < (↑(8 : Nat) : Int)) ∧ Int.toNat n < (8 : Nat)) ∧
  bif decide ((12 : Int) < pulsesF (List.getD (Prod.snd s) (Int.toNat n) (List.replicate (4 : Nat) (0 : Int)))) then ∀ (b : Bool), Ty.eqb (Ty.cons (Ty.arr (8 : Nat) (Ty.int IntKind.i64)) (Ty.last (Ty.arr (8 : Nat) (Ty.arr
  (4 : Nat) (Ty.int IntKind.i64))))) (Prod.fst (Prod.fst (putM k f bit (Prod.fst s, Prod.snd s))), Prod.snd (Prod.fst (putM k f bit (Prod.fst s, Prod.snd s)))) s = b → ∀ (b_1 : Bool), bit = b_1 → ∀ (b_2 : Bool), (bif b_1
  then false else false) = b_2 → ∀ (b_3 : Bool), (!bit) = b_3 → (((b && b && b_1) = true → (b && b && b_1) = true) ∧ (b = true → (b && b) = true ∧ (b_1 = true → (b && b && b_1) = true)) ∧ ((b && b && !b_2) = true → (b && b
  && !b_2) = true) ∧ ((b && b && !b_2 && (b && b && !b_2) && b_3) = true → (b && b && !b_2 && (b && b && !b_2) && b_3) = true) ∧ ((b && b && !b_2) = true → (b && b && !b_2 && (b && b && !b_2)) = true ∧ (b_3 = true → (b && b
  && !b_2 && (b && b && !b_2) && b_3) = true)) ∧ (b = true → (b && b) = true ∧ (b_2 = false → (b && b && !b_2) = true)) ∧ (b = true → b = true ∧ b = true) ∧ (b = true → b = true)) ∧ (bif b then Prod.snd (putM k f bit
  (Prod.fst s, Prod.snd s)) == bif b_2 then true else bif b_3 then false else false else false) = true else (heldB (Prod.snd s) = true ∧ rightF (Prod.fst s) = true ∧ pulsesF (rowZ (Prod.snd s) (bandK k f)) ≤ (12 : Int)) ∧ ∀
  (b : Bool), Ty.eqb (Ty.cons (Ty.arr (8 : Nat) (Ty.int IntKind.i64)) (Ty.last (Ty.arr (8 : Nat) (Ty.arr (4 : Nat) (Ty.int IntKind.i64))))) (Prod.fst (Prod.fst (putM k f bit (Prod.fst s, Prod.snd s))), Prod.snd (Prod.fst
  (putM k f bit (Prod.fst s, Prod.snd s)))) (Prod.fst (Prod.fst (refM k f bit (Prod.fst s, Prod.snd s))), Prod.snd (Prod.fst (refM k f bit (Prod.fst s, Prod.snd s)))) = b → ((b = true → b = true ∧ b = true) ∧ (b = true → b
  = true)) ∧ (bif b then Prod.snd (putM k f bit (Prod.fst s, Prod.snd s)) == Prod.snd (refM k f bit (Prod.fst s, Prod.snd s)) else false) = true
theorem vcd3 (k : List Int) (f : Int) (bit : Bool) (s : List Int × List (List Int)) : Pd3 k f bit s = vcFun Cd3 (annd3 k f bit s) Go.Proofs.Tryd.f3 [⟨.arr 16 (.int .u8), k⟩, ⟨.int .i64, f⟩, ⟨.bool, bit⟩, ⟨(.cons (.arr 8 (.int .i64)) (.last (.arr 8 (.arr 4 (.int .i64))))), s⟩] [] (outd3 k f bit s) := by kernel_rfl

end Go.SL.A

/- MarkPlays: plain. -/
namespace Go.SL.A
open Go Go.SL Go.SL.S
set_option maxRecDepth 100000

theorem tail3 (bit p r t : Bool) (hT : t = bif bit then p else r) : ∀ (b : Bool), true = b → ∀ (b_1 : Bool), bit = b_1 → ∀ (b_2 : Bool), (bif b_1 then p else false) = b_2 → ∀ (b_3 : Bool), (!bit) = b_3 → (((b && b && b_1) = true → (b && b && b_1) = true) ∧ (b = true → (b && b) = true ∧ (b_1 = true → (b && b && b_1) = true)) ∧ ((b && b && !b_2) = true → (b && b && !b_2) = true) ∧ ((b && b && !b_2 && (b && b && !b_2) && b_3) = true → (b && b && !b_2 && (b && b && !b_2) && b_3) = true) ∧ ((b && b && !b_2) = true → (b && b && !b_2 && (b && b && !b_2)) = true ∧ (b_3 = true → (b && b && !b_2 && (b && b && !b_2) && b_3) = true)) ∧ (b = true → (b && b) = true ∧ (b_2 = false → (b && b && !b_2) = true)) ∧ (b = true → b = true ∧ b = true) ∧ (b = true → b = true)) ∧ (bif b then t == bif b_2 then true else bif b_3 then r else false else false) = true := by
  rintro _ rfl _ rfl _ rfl _ rfl
  subst hT
  cases bit <;> cases p <;> cases r <;> simp
theorem eqbSH2 {x y : SHM} (h : x = y) : Ty.eqb (.cons (.arr 8 (.int .i64)) (.last (.arr 8 (.arr 4 (.int .i64))))) x y = true := by
  subst h; exact eqbSH x
theorem tail3b (k : List Int) (f : Int) (bit p r : Bool) (s : SHM) (hh : heldB s.2 = true) (l8 : s.2.length = 8) (l4 : ∀ y ∈ s.2, y.length = 4) (hT : decide (2 ≤ dotZ (rowZ s.2 (bandK k f)) (chipB bit (chipsK k f)) 4) = bif bit then p else r) (n : Int) (hn : bandK k f = n) : bif !rightF (Prod.fst s) then (true = false → false = true) ∧ ∀ (b : Bool), Ty.eqb (Ty.cons (Ty.arr (8 : Nat) (Ty.int IntKind.i64)) (Ty.last (Ty.arr (8 : Nat) (Ty.arr (4 : Nat) (Ty.int IntKind.i64))))) (Prod.fst (Prod.fst (putM k f bit (Prod.fst s, Prod.snd s))), Prod.snd (Prod.fst (putM k f bit (Prod.fst s, Prod.snd s)))) s = b → ∀ (b_1 : Bool), bit = b_1 → ∀ (b_2 : Bool), (bif b_1 then p else false) = b_2 → ∀ (b_3 : Bool), (!bit) = b_3 → (((b && b && b_1) = true → (b && b && b_1) = true) ∧ (b = true → (b && b) = true ∧ (b_1 = true → (b && b && b_1) = true)) ∧ ((b && b && !b_2) = true → (b && b && !b_2) = true) ∧ ((b && b && !b_2 && (b && b && !b_2) && b_3) = true → (b && b && !b_2 && (b && b && !b_2) && b_3) = true) ∧ ((b && b && !b_2) = true → (b && b && !b_2 && (b && b && !b_2)) = true ∧ (b_3 = true → (b && b && !b_2 && (b && b && !b_2) && b_3) = true)) ∧ (b = true → (b && b) = true ∧ (b_2 = false → (b && b && !b_2) = true)) ∧ (b = true → b = true ∧ b = true) ∧ (b = true → b = true)) ∧ (bif b then Prod.snd (putM k f bit (Prod.fst s, Prod.snd s)) == bif b_2 then true else bif b_3 then r else false else false) = true else (((0 : Int) ≤ n ∧ n < (↑(8 : Nat) : Int)) ∧ Int.toNat n < (8 : Nat)) ∧ bif decide ((12 : Int) < pulsesF (List.getD (Prod.snd s) (Int.toNat n) (List.replicate (4 : Nat) (0 : Int)))) then ∀ (b : Bool), Ty.eqb (Ty.cons (Ty.arr (8 : Nat) (Ty.int IntKind.i64)) (Ty.last (Ty.arr (8 : Nat) (Ty.arr (4 : Nat) (Ty.int IntKind.i64))))) (Prod.fst (Prod.fst (putM k f bit (Prod.fst s, Prod.snd s))), Prod.snd (Prod.fst (putM k f bit (Prod.fst s, Prod.snd s)))) s = b → ∀ (b_1 : Bool), bit = b_1 → ∀ (b_2 : Bool), (bif b_1 then p else false) = b_2 → ∀ (b_3 : Bool), (!bit) = b_3 → (((b && b && b_1) = true → (b && b && b_1) = true) ∧ (b = true → (b && b) = true ∧ (b_1 = true → (b && b && b_1) = true)) ∧ ((b && b && !b_2) = true → (b && b && !b_2) = true) ∧ ((b && b && !b_2 && (b && b && !b_2) && b_3) = true → (b && b && !b_2 && (b && b && !b_2) && b_3) = true) ∧ ((b && b && !b_2) = true → (b && b && !b_2 && (b && b && !b_2)) = true ∧ (b_3 = true → (b && b && !b_2 && (b && b && !b_2) && b_3) = true)) ∧ (b = true → (b && b) = true ∧ (b_2 = false → (b && b && !b_2) = true)) ∧ (b = true → b = true ∧ b = true) ∧ (b = true → b = true)) ∧ (bif b then Prod.snd (putM k f bit (Prod.fst s, Prod.snd s)) == bif b_2 then true else bif b_3 then r else false else false) = true else (True ∧ rightF (Prod.fst s) = true ∧ pulsesF (rowZ (Prod.snd s) (bandK k f)) ≤ (12 : Int)) ∧ ∀ (b : Bool), Ty.eqb (Ty.cons (Ty.arr (8 : Nat) (Ty.int IntKind.i64)) (Ty.last (Ty.arr (8 : Nat) (Ty.arr (4 : Nat) (Ty.int IntKind.i64))))) (Prod.fst (Prod.fst (putM k f bit (Prod.fst s, Prod.snd s))), Prod.snd (Prod.fst (putM k f bit (Prod.fst s, Prod.snd s)))) (Prod.fst (Prod.fst (refM k f bit (Prod.fst s, Prod.snd s))), Prod.snd (Prod.fst (refM k f bit (Prod.fst s, Prod.snd s)))) = b → ((b = true → b = true ∧ b = true) ∧ (b = true → b = true)) ∧ (bif b then Prod.snd (putM k f bit (Prod.fst s, Prod.snd s)) == Prod.snd (refM k f bit (Prod.fst s, Prod.snd s)) else false) = true := by
  subst hn
  have hb := band_fit k f
  have hb8 : (bandK k f).toNat < 8 := by omega
  have hbb : 0 ≤ bandK k f ∧ bandK k f < ((8 : Nat) : Int) := ⟨hb.1, hb.2⟩
  have hP : putM k f bit s = putR (rowZ s.2 (bandK k f)) (chipB bit (chipsK k f)) (movF s.1 (bandK k f)) (pulsesF (rowZ s.2 (bandK k f))) s (bandK k f).toNat := by
    unfold putM; rw [if_pos hh]
  have hM : refM k f bit s = refR (rowZ s.2 (bandK k f)) (chipB bit (chipsK k f)) (gainF (s.1.getD (bandK k f).toNat 0)) (budTo s.1 (bandK k f) 8) s (bandK k f).toNat := rfl
  have hrow : List.getD s.2 (bandK k f).toNat (List.replicate 4 0) = rowZ s.2 (bandK k f) := rfl
  have hl : (rowZ s.2 (bandK k f)).length = 4 := l4 _ (getD_mem (by rw [l8]; exact hb8))
  have ho : okRow (rowZ s.2 (bandK k f)) = true := held_row l8 hh hb
  simp only [pair_eta]
  rw [hrow]
  cases hr : rightF s.1 with
  | false =>
    rw [Bool.not_false, cond_true]
    have hm : movF s.1 (bandK k f) = 0 := by unfold movF mayM; rw [hr]; rfl
    have e : putM k f bit s = (s, decide (2 ≤ dotZ (rowZ s.2 (bandK k f)) (chipB bit (chipsK k f)) 4)) := by
      rw [hP]; unfold putR; rw [if_pos (by rw [hm]; simp)]
    rw [e, hT]
    refine ⟨by simp, ?_⟩
    intro b hb0
    have hb0 : true = b := (eqbSH s).symm.trans hb0
    exact tail3 bit p r _ rfl b hb0
  | true =>
    rw [Bool.not_true, cond_false]
    refine ⟨⟨hbb, hb8⟩, ?_⟩
    by_cases h12 : 12 < pulsesF (rowZ s.2 (bandK k f))
    · rw [decide_eq_true h12, cond_true]
      have e : putM k f bit s = (s, decide (2 ≤ dotZ (rowZ s.2 (bandK k f)) (chipB bit (chipsK k f)) 4)) := by
        rw [hP]; unfold putR; rw [if_pos (by simp [h12])]
      rw [e, hT]
      intro b hb0
      have hb0 : true = b := (eqbSH s).symm.trans hb0
      exact tail3 bit p r _ rfl b hb0
    · rw [decide_eq_false h12, cond_false]
      refine ⟨⟨trivial, rfl, Int.not_lt.1 h12⟩, ?_⟩
      have hg : ∀ z, farM (rowZ s.2 (bandK k f)) z 4 * gainF (s.1.getD (bandK k f).toNat 0) ≤ budTo s.1 (bandK k f) 8 ↔ farM (rowZ s.2 (bandK k f)) z 4 ≤ movF s.1 (bandK k f) := fun z => by
        have hs := right_get hr (bandK k f).toNat
        have hm : movF s.1 (bandK k f) = budTo s.1 (bandK k f) 8 / 2 ^ (s.1.getD (bandK k f).toNat 0).toNat := by
          unfold movF mayM; rw [hr, decide_eq_true hb.1, decide_eq_true hb.2]; exact if_pos rfl
        rw [hm, gain_two hs]
        exact (Int.le_ediv_iff_mul_le (Int.pow_pos (by decide))).symm
      have hq : sumSz (rowZ s.2 (bandK k f)) ≤ 12 := by
        unfold pulsesF at h12
        split at h12 <;> omega
      have e : putM k f bit s = refM k f bit s := by
        rw [hP, hM]
        exact ref_eq hl ho hq rfl (by rw [l8]; exact hb8) hg
      rw [e]
      rintro b hb0
      rw [eqbSH] at hb0
      subst hb0
      refine ⟨by simp, ?_⟩
      rw [cond_true]; exact beq_self_eq_true _
theorem okRow_step {y : List Int} {j : Nat} (h : j < y.length) : okRow (y.take (j + 1)) = (okRow (y.take j) && okN (y.getD j 0)) := all_step _ _ h
theorem okN_two (v : Int) : (bif decide (-12 ≤ v) then decide (v ≤ 12) else false) = okN v := by
  unfold okN
  by_cases h1 : -12 ≤ v
  · rw [decide_eq_true h1, cond_true, decide_eq_false (show ¬ v < -12 by omega), Bool.false_or]
    by_cases h2 : v ≤ 12
    · rw [decide_eq_true h2, decide_eq_false (show ¬ 12 < v by omega)]; rfl
    · rw [decide_eq_false h2, decide_eq_true (show 12 < v by omega)]; rfl
  · rw [decide_eq_false h1, cond_false, decide_eq_true (show v < -12 by omega)]; rfl
theorem pured3 (k : List Int) (f : Int) (bit : Bool) (s : List Int × List (List Int)) (hl : s.1.length = 8 ∧ s.2.length = 8 ∧ ∀ y ∈ s.2, y.length = 4) : Pd3 k f bit s := by
  obtain ⟨l1, l8, l4⟩ := hl
  unfold Pd3
  simp only [eq_self, true_and, and_true, Int.toNat_natCast]
  refine ⟨0, ⟨⟨rfl, rfl⟩, by omega⟩, fun x hx _ => ?_⟩
  by_cases h : (x : Int) < 8
  · rw [decide_eq_true h, cond_true]
    have hyl : (List.getD s.2 x (List.replicate 4 0)).length = 4 := l4 _ (getD_mem (by omega))
    have hst : heldB (s.2.take (x + 1)) = (heldB (s.2.take x) && okRow (s.2.getD x (List.replicate 4 0))) := all_step _ _ (by omega)
    refine ⟨0, ⟨⟨by cases heldB (s.2.take x) <;> rfl, rfl⟩, by omega⟩, fun j hj _ => ?_⟩
    by_cases h4 : (j : Int) < 4
    · rw [decide_eq_true h4, cond_true]
      have hs2 := okRow_step (y := List.getD s.2 x (List.replicate 4 0)) (j := j) (by omega)
      have hn := okN_two ((List.getD s.2 x (List.replicate 4 0)).getD j 0)
      rintro _ rfl _ rfl
      refine ⟨⟨fun h => ⟨h, h, by omega, by omega⟩, fun h => ⟨h, h, by omega, by omega⟩, fun h => ⟨h, by omega, by omega⟩, fun h => h, fun h => h, fun h => ⟨h, h, by omega, by omega⟩, fun h => ⟨h, h, by omega, by omega⟩, fun h => ⟨h, by omega, by omega⟩, fun h => h, fun h => h⟩, j + 1, ⟨?_, step_i (by omega)⟩, by omega, by omega⟩
      rw [hs2, ← hn]
      cases heldB (s.2.take x) <;> cases okRow ((List.getD s.2 x (List.replicate 4 0)).take j) <;> rfl
    · have : j = 4 := by omega
      subst this
      rw [decide_eq_false h4, cond_false]
      refine ⟨x + 1, ⟨?_, step_i (by omega)⟩, by omega, by omega⟩
      rw [hst, List.take_of_length_le (l := List.getD s.2 x (List.replicate 4 0)) (by omega)]
  · have : x = 8 := by omega
    subst this
    rw [decide_eq_false h, cond_false, List.take_of_length_le (by omega)]
    simp only [pair_eta]
    cases hh : heldB s.2 with
    | false =>
      have e1 : corrF k f s = 0 := by unfold corrF; rw [hh]; rfl
      have e2 : putM k f bit s = (s, false) := by unfold putM; rw [hh]; rfl
      rw [Bool.not_false, cond_true, e1, e2, decide_eq_true (rfl : (0 : Int) = 0), cond_true]
      rintro b hb
      have hb : true = b := hb
      subst hb
      rw [cond_true]
      rintro b hb
      rw [eqbSH2 rfl] at hb
      subst hb
      exact ⟨by simp, rfl⟩
    | true =>
      rw [Bool.not_true, cond_false]
      have hb := band_fit k f
      have hn0 : List.getD s.2 (bandK k f).toNat (List.replicate 4 0) = rowZ s.2 (bandK k f) := rfl
      have e1 : corrF k f s = dotZ (rowZ s.2 (bandK k f)) (chipsK k f) 4 := by unfold corrF; rw [if_pos hh]
      have ho : okRow (rowZ s.2 (bandK k f)) = true := held_row l8 hh hb
      have hd := dot_chip (rowZ s.2 (bandK k f)) (chipsK k f) bit 4
      rintro n hn
      have hn1 : List.getD s.2 n.toNat (List.replicate 4 0) = rowZ s.2 (bandK k f) := by rw [← hn]; rfl
      have t3 := fun p r hT => tail3b k f bit p r s hh l8 l4 hT n hn
      simp only [pair_eta] at t3
      rw [hn1, e1]
      rw [hn1] at t3
      refine ⟨⟨⟨by omega, by omega⟩, by omega, small_of ho, chip_small k f⟩, ?_⟩
      generalize hdv : dotZ (rowZ s.2 (bandK k f)) (chipsK k f) 4 = d at *
      have e3 : (!decide (d = d)) = false := by simp
      rw [e3]
      simp only [cond_false]
      by_cases h1 : 2 ≤ d
      · have s1 : (!decide (spkF d = 1)) = false := by unfold spkF; rw [if_pos h1]; rfl
        rw [decide_eq_true h1, cond_true, decide_eq_false (show ¬ d ≤ -2 by omega), cond_false, s1, cond_false]
        refine t3 false true ?_
        rw [hd]
        cases bit
        · rw [if_neg (by simp), decide_eq_true h1]; rfl
        · rw [if_pos rfl, decide_eq_false (by omega)]; rfl
      · rw [decide_eq_false h1, cond_false]
        by_cases h2 : d ≤ -2
        · have s1 : (!decide (spkF d = -1)) = false := by unfold spkF; rw [if_neg h1, if_pos h2]; rfl
          rw [decide_eq_true h2, cond_true, s1, cond_false]
          refine t3 true false ?_
          rw [hd]
          cases bit
          · rw [if_neg (by simp), decide_eq_false h1]; rfl
          · rw [if_pos rfl, decide_eq_true (by omega)]; rfl
        · have s1 : (!decide (spkF d = 0)) = false := by unfold spkF; rw [if_neg h1, if_neg h2]; rfl
          rw [decide_eq_false h2, cond_false, s1, cond_false]
          refine t3 false false ?_
          rw [hd]
          cases bit
          · rw [if_neg (by simp), decide_eq_false h1]; rfl
          · rw [if_pos rfl, decide_eq_false (by omega)]; rfl
end Go.SL.A

/- Functions do what they are held to do. -/
namespace Go.SL.A
open Go Go.SL Go.SL.S
theorem sndd3 : Sound Go.Proofs.Tryd.prog Gd3 := sndd14.add ⟨_, Go.Proofs.Tryd.func3, by kernel_rfl, by kernel_rfl⟩ (by
  intro args ins out h hp
  unfold spd3 at h
  split at h
  · rename_i k f bit s
    cases h
    exact vcFun_ok (C := Cd3) good sndd14 Meth.none mix Go.Proofs.Tryd.func3 (annd3 k f bit s) (fun hw => by rw [← vcd3 k f bit s]; exact pured3 k f bit s (hwd16b hw))
  · cases h)

end Go.SL.A

/- MarkPlays: the law returns true, whatever its arguments; each argument reads afterwards as before. No condition. -/
namespace Go.Proofs.YthhfccnhkadkcaaDoor
open Go Go.SL Go.SL.S Go.ChangeShapes Go.WideShapes Go.ChangeAt Go.WideMaps Go.WideElems Go.RowKit
set_option maxRecDepth 100000

theorem parsT : ((Go.Proofs.Tryd.f3.params.toList).all fun t => Nat.blt t Go.Proofs.Tryd.prog.types.size) = true := by kernel_rfl
theorem parsL : Go.Proofs.Tryd.f3.params.toList = [23, 3, 4, 30] := by kernel_rfl
theorem law_pure : ∀ avs bls, argsOk Go.SL.A.D Go.Proofs.Tryd.f3.params.toList 0 avs bls → VCall Go.Proofs.Tryd.prog 3 avs bls ⟨[], .v .bool true, [], []⟩ := by
  rw [parsL]
  intro avs bls h
  replace h : ∃ (t : Ty) (x : t.I) (avs' : List AV), Go.SL.A.D.ty 23 = some t ∧ avs = ⟨t, x⟩ :: avs' ∧ argsOk Go.SL.A.D [3, 4, 30] 0 avs' bls := h
  obtain ⟨t, x0, avs, ht, rfl, h⟩ := h
  obtain rfl : .arr 16 (.int .u8) = t := Option.some.inj ((show (some (.arr 16 (.int .u8)) : Option Ty) = Go.SL.A.D.ty 23 by kernel_rfl).trans ht)
  replace h : ∃ (t : Ty) (x : t.I) (avs' : List AV), Go.SL.A.D.ty 3 = some t ∧ avs = ⟨t, x⟩ :: avs' ∧ argsOk Go.SL.A.D [4, 30] 0 avs' bls := h
  obtain ⟨t, x1, avs, ht, rfl, h⟩ := h
  obtain rfl : .int .i64 = t := Option.some.inj ((show (some (.int .i64) : Option Ty) = Go.SL.A.D.ty 3 by kernel_rfl).trans ht)
  replace h : ∃ (t : Ty) (x : t.I) (avs' : List AV), Go.SL.A.D.ty 4 = some t ∧ avs = ⟨t, x⟩ :: avs' ∧ argsOk Go.SL.A.D [30] 0 avs' bls := h
  obtain ⟨t, x2, avs, ht, rfl, h⟩ := h
  obtain rfl : .bool = t := Option.some.inj ((show (some (.bool) : Option Ty) = Go.SL.A.D.ty 4 by kernel_rfl).trans ht)
  replace h : ∃ (t : Ty) (x : t.I) (avs' : List AV), Go.SL.A.D.ty 30 = some t ∧ avs = ⟨t, x⟩ :: avs' ∧ argsOk Go.SL.A.D [] 0 avs' bls := h
  obtain ⟨t, x3, avs, ht, rfl, h⟩ := h
  obtain rfl : .cons (.arr 8 (.int .i64)) (.last (.arr 8 (.arr 4 (.int .i64)))) = t := Option.some.inj ((show (some (.cons (.arr 8 (.int .i64)) (.last (.arr 8 (.arr 4 (.int .i64))))) : Option Ty) = Go.SL.A.D.ty 30 by kernel_rfl).trans ht)
  obtain ⟨rfl, rfl⟩ : avs = [] ∧ bls = [] := h
  have q := (Go.SL.A.sndd3 3 Go.SL.A.spd3 rfl).2 [⟨.arr 16 (.int .u8), x0⟩, ⟨.int .i64, x1⟩, ⟨.bool, x2⟩, ⟨.cons (.arr 8 (.int .i64)) (.last (.arr 8 (.arr 4 (.int .i64)))), x3⟩] [] _ rfl (trivial)
  exact q

abbrev laidL : List (String × DataW Unit) := [("belfry/sip.signs", Rows.laid_belfry_sip_signs)]
theorem lifted (os : Os) (started : os.Started) (H : Type) (enc : TypeId × Value → H) :
    ReturnsInHanded {} Go.Proofs.Tryd.checked os 3 .any (fun w args => (Rows.markPlaysSpec.pre enc Go.Proofs.Tryd.prog Go.Proofs.Tryd.f3 [] false w args ∧ laidMetH Go.Proofs.Tryd.prog laidL w) ∧ sizedMet enc Go.Proofs.Tryd.prog Go.Proofs.Tryd.f3 (OpenSpec.ofChange Rows.markPlaysSpec) false w args) (Rows.markPlaysSpec.post enc Go.Proofs.Tryd.prog Go.Proofs.Tryd.f3 false true false false) := by
  refine returnsInHanded_of_change_and (C := Go.Proofs.Tryd.checked) (X := fun w _ => laidMetH Go.Proofs.Tryd.prog laidL w) (fun _ _ _ hh h => h.of_heap hh) Seat.own started (by kernel_rfl) Go.Proofs.Tryd.func3
    (ChangeSpec.witness_at (enc := enc) (C := Go.Proofs.Tryd.checked) (os := os) (X := fun w _ => laidMetH Go.Proofs.Tryd.prog laidL w) false (Seat.laidWorld os) #[.agg (Array.replicate 16 (.int .u8 0)), .int .i64 0, .bool false, .agg (Array.replicate 40 (.int .i64 0))] 8 rfl (by kernel_rfl) (by kernel_rfl) (by kernel_rfl) (by kernel_rfl) (by kernel_rfl) (Seat.laidWorld_met os _)) ?_
  intro W base args ds gs before hval hW _ _ hL _
  refine law_calls (D := Go.SL.A.D) Go.SL.A.good Seat.kids Seat.slicesFull (fun t ht => Nat.le_of_ble_eq_true (List.all_eq_true.1 parsT t ht)) (by kernel_rfl) (show Go.Proofs.Tryd.f3.resultTypes = #[4] by kernel_rfl) Go.Proofs.Tryd.underlying4 rfl (fun ds h => ?_) law_pure (fun g a hg => Seat.signs_gl hL g a hg) hval hW
  have h : ds.length = 4 := h
  match ds, h with
  | [_, _, _, _], _ => rfl

theorem joined : joinedFacts Go.Proofs.Tryd.prog 3 Go.Proofs.Tryd.f3 Rows.markPlaysSpec Rows.markPlaysRow = true := by
  unfold joinedFacts
  exact (andT (andT (andT (andT (andT (andT (andT (andT (andT (andT (andT (andT (andT (andT (andT (andT (andT (andT (andT (andT (andT (andT (andT (andT (andT (andT (andT (andT (andT (andT (andT (by as_aux_lemma => kernel_rfl) Seat.laidOut) Seat.mapsRowed) (by as_aux_lemma => kernel_rfl)) (by as_aux_lemma => kernel_rfl)) (by as_aux_lemma => kernel_rfl)) Seat.stops) (by as_aux_lemma => kernel_rfl)) Seat.knobs) (by as_aux_lemma => kernel_rfl)) (by as_aux_lemma => kernel_rfl)) (by as_aux_lemma => kernel_rfl)) (by as_aux_lemma => kernel_rfl)) (by as_aux_lemma => kernel_rfl)) (by as_aux_lemma => kernel_rfl)) (by as_aux_lemma => kernel_rfl)) (by as_aux_lemma => kernel_rfl)) (by as_aux_lemma => kernel_rfl)) (by as_aux_lemma => kernel_rfl)) (by as_aux_lemma => kernel_rfl)) (by as_aux_lemma => kernel_rfl)) (by as_aux_lemma => kernel_rfl)) (by as_aux_lemma => kernel_rfl)) (by as_aux_lemma => kernel_rfl)) Seat.heard) Seat.mayEnter) (by rw [Seat.lifts]; rfl)) (by rw [Seat.made]; rfl)) (by as_aux_lemma => kernel_rfl)) (by as_aux_lemma => kernel_rfl)) (by as_aux_lemma => kernel_rfl)) (by as_aux_lemma => kernel_rfl))

theorem markPlays_holds : Rows.MarkPlaysSaid :=
  OpenClaim.holds_of_wide 3 Go.Proofs.Tryd.f3 rfl rfl rfl rfl rfl rfl rfl ⟨rfl, rfl, rfl, rfl, rfl⟩ rfl rfl rfl rfl rfl (by kernel_rfl) Go.Proofs.Tryd.func3 joined
    (of_decide_eq_true (by kernel_rfl)) (by unfold Func.isWrapper; first | (rw [if_pos (by decide +kernel)]; kernel_rfl) | (rw [if_neg (by decide +kernel)]; exact ⟨rfl, rfl⟩))
    (fun os started H enc _ => lifted os started H enc)

theorem noStand : ((Go.Proofs.Tryd.f3.params.toList).all fun t => !Go.Proofs.Tryd.prog.wantsStandIn t) = true := by kernel_rfl
theorem markPlaysCard_holds : Rows.MarkPlaysCardSaid :=
  Claim7.holds_tied_plain_at .later [] [.data] true (true, "c88e0687c222961115da2a84d0fc17cee095a0dd0289832c0327b0b27169c1bb") true
    markPlays_holds (fun _ h => by cases h) (by kernel_rfl) (fun _ h => by cases h) markPlays_row_tie rfl ⟨rfl, rfl⟩ (by kernel_rfl) rfl
    (fun f fn hf hfn => by
      obtain rfl : f = 3 := Option.some.inj (hf.symm.trans (by kernel_rfl))
      obtain rfl : fn = Go.Proofs.Tryd.f3 := Option.some.inj (hfn.symm.trans Go.Proofs.Tryd.func3)
      refine ⟨by kernel_rfl, fun j t ht => ?_⟩
      have hm := List.all_eq_true.1 noStand t (List.mem_of_getElem? (by rw [Array.getElem?_toList]; exact ht))
      exact (show Go.Proofs.Tryd.prog.wantsStandIn t = false by simpa using hm))
    (by kernel_rfl)

#print axioms markPlaysCard_holds
end Go.Proofs.YthhfccnhkadkcaaDoor
