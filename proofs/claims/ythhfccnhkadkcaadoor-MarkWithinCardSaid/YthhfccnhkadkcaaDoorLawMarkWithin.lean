/- MarkWithin returns true, whatever its arguments, which read afterwards as before: no condition but that the package-level table holds what the program's text lays (tied by the card). -/
import Derived.Test.YthhfccnhkadkcaaDoorRows
import Derived.Test.YthhfccnhkadkcaaDoorCards
import Derived.Test.YthhfccnhkadkcaaDoorTie
import Derived.Test.YthhfccnhkadkcaaDoorShape
import Derived.Test.YthhfccnhkadkcaaDoorKb
import Derived.Test.YthhfccnhkadkcaaDoorT

/- Functions and what they are held to do: bound to their code. -/
namespace Go.SL.A
open Go Go.SL Go.SL.S
set_option maxRecDepth 100000
noncomputable def Cd13 : Ctx := ⟨Go.Proofs.Tryd.prog, D, Gd14, (fun _ _ => none), fun r => match r with | 6 => [2] | _ => []⟩
def annd13 (_k : List Int) (_f : Int) (_bit : Bool) (_side _l : List Int) (_n : Int) : Nat → St → Option Ann := fun _ _ => some ⟨Nat, [14, 15, 16, 17], [3, 4], fun i => [(19, .v (.int .i64) (i : Int))], fun _ => [], fun i => i ≤ 8, fun i => 8 - i⟩
def outd13 (_k : List Int) (_f : Int) (_bit : Bool) (_side _l : List Int) (_n : Int) : COut := ⟨[], .v .bool true, [], []⟩
def spd13 : Spec := fun args ins => match args, ins with
  | [⟨.arr 16 (.int .u8), k⟩, ⟨.int .i64, f⟩, ⟨.bool, bit⟩, ⟨.arr 8 (.int .i64), side⟩, ⟨.arr 8 (.int .u32), l⟩, ⟨.int .u8, n⟩], [] => some (outd13 k f bit side l n)
  | _, _ => none
def Gd13 := addG Gd14 13 spd13
def Pd13 (k : List Int) (f : Int) (bit : Bool) (side l : List Int) (n : Int) : Prop :=
  (13 : Int) ≠ (0 : Int) ∧ ((12 : Int) ≤ IntKind.wrap IntKind.i64 ((12 : Int) + Int.tmod (IntKind.wrap IntKind.i64 n) (13 : Int)) ∧ IntKind.wrap IntKind.i64 ((12 : Int) + Int.tmod (IntKind.wrap IntKind.i64 n) (13 : Int)) ≤
  (24 : Int)) ∧ ∀ (n_1 : Int), bandK k f = n_1 → bif bit then bif !Ty.eqb (Ty.arr (8 : Nat) (Ty.int IntKind.i64)) (Prod.fst (Prod.fst (putM k f bit (Prod.fst (shape19 side l (IntKind.wrap IntKind.i64 ((12 : Int) + Int.tmod
  (IntKind.wrap IntKind.i64 n) (13 : Int)))), Prod.snd (shape19 side l (IntKind.wrap IntKind.i64 ((12 : Int) + Int.tmod (IntKind.wrap IntKind.i64 n) (13 : Int)))))))) (Prod.fst (shape19 side l (IntKind.wrap IntKind.i64 ((12 :
  Int) + Int.tmod (IntKind.wrap IntKind.i64 n) (13 : Int))))) then ((true = false → false = true) ∧ (true = false → false = true) ∧ (true = false → false = true) ∧ (true = false → false = true)) ∧ false = true else bif
  !packR (Prod.fst (Prod.fst (putM k f bit (Prod.fst (shape19 side l (IntKind.wrap IntKind.i64 ((12 : Int) + Int.tmod (IntKind.wrap IntKind.i64 n) (13 : Int)))), Prod.snd (shape19 side l (IntKind.wrap IntKind.i64 ((12 : Int)
  + Int.tmod (IntKind.wrap IntKind.i64 n) (13 : Int))))))), Prod.snd (Prod.fst (putM k f bit (Prod.fst (shape19 side l (IntKind.wrap IntKind.i64 ((12 : Int) + Int.tmod (IntKind.wrap IntKind.i64 n) (13 : Int)))), Prod.snd
  (shape19 side l (IntKind.wrap IntKind.i64 ((12 : Int) + Int.tmod (IntKind.wrap IntKind.i64 n) (13 : Int)))))))) (IntKind.wrap IntKind.i64 ((12 : Int) + Int.tmod (IntKind.wrap IntKind.i64 n) (13 : Int))) then ((true = false
  → false = true) ∧ (true = false → false = true) ∧ (true = false → false = true)) ∧ false = true else bif !mayV (Prod.fst (shape19 side l (IntKind.wrap IntKind.i64 ((12 : Int) + Int.tmod (IntKind.wrap IntKind.i64 n) (13 :
  Int))))) n_1 (List.getD (Prod.snd (shape19 side l (IntKind.wrap IntKind.i64 ((12 : Int) + Int.tmod (IntKind.wrap IntKind.i64 n) (13 : Int))))) (Int.toNat n_1) (List.replicate (4 : Nat) (0 : Int))) (List.getD (Prod.snd
  (Prod.fst (putM k f bit (Prod.fst (shape19 side l (IntKind.wrap IntKind.i64 ((12 : Int) + Int.tmod (IntKind.wrap IntKind.i64 n) (13 : Int)))), Prod.snd (shape19 side l (IntKind.wrap IntKind.i64 ((12 : Int) + Int.tmod
  (IntKind.wrap IntKind.i64 n) (13 : Int)))))))) (Int.toNat n_1) (List.replicate (4 : Nat) (0 : Int))) then (((0 : Int) ≤ n_1 ∧ n_1 < (↑(8 : Nat) : Int)) ∧ Int.toNat n_1 < (8 : Nat) ∧ ((0 : Int) ≤ n_1 ∧ n_1 < (↑(8 : Nat) :
  Int)) ∧ Int.toNat n_1 < (8 : Nat) ∧ (smallV (List.getD (Prod.snd (shape19 side l (IntKind.wrap IntKind.i64 ((12 : Int) + Int.tmod (IntKind.wrap IntKind.i64 n) (13 : Int))))) (Int.toNat n_1) (List.replicate (4 : Nat) (0 :
  Int))) ∧ smallV (List.getD (Prod.snd (Prod.fst (putM k f bit (Prod.fst (shape19 side l (IntKind.wrap IntKind.i64 ((12 : Int) + Int.tmod (IntKind.wrap IntKind.i64 n) (13 : Int)))), Prod.snd (shape19 side l (IntKind.wrap
  IntKind.i64 ((12 : Int) + Int.tmod (IntKind.wrap IntKind.i64 n) (13 : Int)))))))) (Int.toNat n_1) (List.replicate (4 : Nat) (0 : Int)))) ∧ (true = false → false = true) ∧ (true = false → false = true)) ∧ false = true else
  bif !Prod.snd (putM k f bit (Prod.fst (shape19 side l (IntKind.wrap IntKind.i64 ((12 : Int) + Int.tmod (IntKind.wrap IntKind.i64 n) (13 : Int)))), Prod.snd (shape19 side l (IntKind.wrap IntKind.i64 ((12 : Int) + Int.tmod
  (IntKind.wrap IntKind.i64 n) (13 : Int)))))) == decide (spkF (corrF k f (Prod.fst (Prod.fst (putM k f bit (Prod.fst (shape19 side l (IntKind.wrap IntKind.i64 ((12 : Int) + Int.tmod (IntKind.wrap IntKind.i64 n) (13 :
  Int)))), Prod.snd (shape19 side l (IntKind.wrap IntKind.i64 ((12 : Int) + Int.tmod (IntKind.wrap IntKind.i64 n) (13 : Int))))))), Prod.snd (Prod.fst (putM k f bit (Prod.fst (shape19 side l (IntKind.wrap IntKind.i64 ((12 :
  Int) + Int.tmod (IntKind.wrap IntKind.i64 n) (13 : Int)))), Prod.snd (shape19 side l (IntKind.wrap IntKind.i64 ((12 : Int) + Int.tmod (IntKind.wrap IntKind.i64 n) (13 : Int))))))))) = (-1 : Int)) then (((0 : Int) ≤ n_1 ∧
  n_1 < (↑(8 : Nat) : Int)) ∧ Int.toNat n_1 < (8 : Nat) ∧ ((0 : Int) ≤ n_1 ∧ n_1 < (↑(8 : Nat) : Int)) ∧ Int.toNat n_1 < (8 : Nat) ∧ (smallV (List.getD (Prod.snd (shape19 side l (IntKind.wrap IntKind.i64 ((12 : Int) +
  Int.tmod (IntKind.wrap IntKind.i64 n) (13 : Int))))) (Int.toNat n_1) (List.replicate (4 : Nat) (0 : Int))) ∧ smallV (List.getD (Prod.snd (Prod.fst (putM k f bit (Prod.fst (shape19 side l (IntKind.wrap IntKind.i64 ((12 :
  Int) + Int.tmod (IntKind.wrap IntKind.i64 n) (13 : Int)))), Prod.snd (shape19 side l (IntKind.wrap IntKind.i64 ((12 : Int) + Int.tmod (IntKind.wrap IntKind.i64 n) (13 : Int)))))))) (Int.toNat n_1) (List.replicate (4 : Nat)
  (0 : Int)))) ∧ (true = false → false = true)) ∧ false = true else (((0 : Int) ≤ n_1 ∧ n_1 < (↑(8 : Nat) : Int)) ∧ Int.toNat n_1 < (8 : Nat) ∧ ((0 : Int) ≤ n_1 ∧ n_1 < (↑(8 : Nat) : Int)) ∧ Int.toNat n_1 < (8 : Nat) ∧
  smallV (List.getD (Prod.snd (shape19 side l (IntKind.wrap IntKind.i64 ((12 : Int) + Int.tmod (IntKind.wrap IntKind.i64 n) (13 : Int))))) (Int.toNat n_1) (List.replicate (4 : Nat) (0 : Int))) ∧ smallV (List.getD (Prod.snd
  (Prod.fst (putM k f bit (Prod.fst (shape19 side l (IntKind.wrap IntKind.i64 ((12 : Int) + Int.tmod (IntKind.wrap IntKind.i64 n) (13 : Int)))), Prod.snd (shape19 side l (IntKind.wrap IntKind.i64 ((12 : Int) + Int.tmod
  (IntKind.wrap IntKind.i64 n) (13 : Int)))))))) (Int.toNat n_1) (List.replicate (4 : Nat) (0 : Int)))) ∧ bif !Prod.snd (putM k f bit (Prod.fst (shape19 side l (IntKind.wrap IntKind.i64 ((12 : Int) + Int.tmod (IntKind.wrap
  IntKind.i64 n) (13 : Int)))), Prod.snd (shape19 side l (IntKind.wrap IntKind.i64 ((12 : Int) + Int.tmod (IntKind.wrap IntKind.i64 n) (13 : Int)))))) == Prod.snd (putM k f bit (Prod.fst (shape19 side l (IntKind.wrap
  IntKind.i64 ((12 : Int) + Int.tmod (IntKind.wrap IntKind.i64 n) (13 : Int)))), Prod.snd (shape19 side l (IntKind.wrap IntKind.i64 ((12 : Int) + Int.tmod (IntKind.wrap IntKind.i64 n) (13 : Int)))))) then false = true else ∃
  (x : Nat), (((0 : Nat) = (0 : Nat) ∧ (0 : Nat) = (0 : Nat) ∧ Prod.snd (putM k f bit (Prod.fst (shape19 side l (IntKind.wrap IntKind.i64 ((12 : Int) + Int.tmod (IntKind.wrap IntKind.i64 n) (13 : Int)))), Prod.snd (shape19
  side l (IntKind.wrap IntKind.i64 ((12 : Int) + Int.tmod (IntKind.wrap IntKind.i64 n) (13 : Int)))))) = Prod.snd (putM k f bit (Prod.fst (shape19 side l (IntKind.wrap IntKind.i64 ((12 : Int) + Int.tmod (IntKind.wrap
  IntKind.i64 n) (13 : Int)))), Prod.snd (shape19 side l (IntKind.wrap IntKind.i64 ((12 : Int) + Int.tmod (IntKind.wrap IntKind.i64 n) (13 : Int)))))) ∧ n_1 = n_1 ∧ (0 : Int) = (↑x : Int) ∧ Prod.fst (shape19 side l
  (IntKind.wrap IntKind.i64 ((12 : Int) + Int.tmod (IntKind.wrap IntKind.i64 n) (13 : Int)))) = Prod.fst (shape19 side l (IntKind.wrap IntKind.i64 ((12 : Int) + Int.tmod (IntKind.wrap IntKind.i64 n) (13 : Int)))) ∧ Prod.snd
  (shape19 side l (IntKind.wrap IntKind.i64 ((12 : Int) + Int.tmod (IntKind.wrap IntKind.i64 n) (13 : Int)))) = Prod.snd (shape19 side l (IntKind.wrap IntKind.i64 ((12 : Int) + Int.tmod (IntKind.wrap IntKind.i64 n) (13 :
  Int)))) ∧ false = false ∧ Prod.fst (Prod.fst (putM k f bit (Prod.fst (shape19 side l (IntKind.wrap IntKind.i64 ((12 : Int) + Int.tmod (IntKind.wrap IntKind.i64 n) (13 : Int)))), Prod.snd (shape19 side l (IntKind.wrap
  IntKind.i64 ((12 : Int) + Int.tmod (IntKind.wrap IntKind.i64 n) (13 : Int))))))) = Prod.fst (Prod.fst (putM k f bit (Prod.fst (shape19 side l (IntKind.wrap IntKind.i64 ((12 : Int) + Int.tmod (IntKind.wrap IntKind.i64 n)
  (13 : Int)))), Prod.snd (shape19 side l (IntKind.wrap IntKind.i64 ((12 : Int) + Int.tmod (IntKind.wrap IntKind.i64 n) (13 : Int))))))) ∧ Prod.snd (Prod.fst (putM k f bit (Prod.fst (shape19 side l (IntKind.wrap IntKind.i64
  ((12 : Int) + Int.tmod (IntKind.wrap IntKind.i64 n) (13 : Int)))), Prod.snd (shape19 side l (IntKind.wrap IntKind.i64 ((12 : Int) + Int.tmod (IntKind.wrap IntKind.i64 n) (13 : Int))))))) = Prod.snd (Prod.fst (putM k f bit
  (Prod.fst (shape19 side l (IntKind.wrap IntKind.i64 ((12 : Int) + Int.tmod (IntKind.wrap IntKind.i64 n) (13 : Int)))), Prod.snd (shape19 side l (IntKind.wrap IntKind.i64 ((12 : Int) + Int.tmod (IntKind.wrap IntKind.i64 n)
  (13 : Int))))))) ∧ false = false) ∧ x ≤ (8 : Nat)) ∧ ∀ (x : Nat), x ≤ (8 : Nat) → IntKind.min IntKind.i64 ≤ (↑x : Int) ∧ (↑x : Int) ≤ IntKind.max IntKind.i64 → bif decide ((↑x : Int) < (8 : Int)) then ∀ (b : Bool),
  (!decide ((↑x : Int) = n_1)) = b → ((b = true → b = true ∧ b = true ∧ (0 : Int) ≤ (↑x : Int) ∧ (↑x : Int) < (↑(8 : Nat) : Int)) ∧ (b = true → b = true ∧ Int.toNat (↑x : Int) < (8 : Nat)) ∧ (b = true → b = true ∧ b = true
  ∧ (0 : Int) ≤ (↑x : Int) ∧ (↑x : Int) < (↑(8 : Nat) : Int)) ∧ (b = true → b = true ∧ Int.toNat (↑x : Int) < (8 : Nat)) ∧ (b = true → b = true ∧ b = true) ∧ (b = true → b = true)) ∧ bif bif b then !Ty.eqb (Ty.arr (4 : Nat)
  (Ty.int IntKind.i64)) (List.getD (Prod.snd (Prod.fst (putM k f bit (Prod.fst (shape19 side l (IntKind.wrap IntKind.i64 ((12 : Int) + Int.tmod (IntKind.wrap IntKind.i64 n) (13 : Int)))), Prod.snd (shape19 side l
  (IntKind.wrap IntKind.i64 ((12 : Int) + Int.tmod (IntKind.wrap IntKind.i64 n) (13 : Int)))))))) (Int.toNat (↑x : Int)) (List.replicate (4 : Nat) (0 : Int))) (List.getD (Prod.snd (shape19 side l (IntKind.wrap IntKind.i64
  ((12 : Int) + Int.tmod (IntKind.wrap IntKind.i64 n) (13 : Int))))) (Int.toNat (↑x : Int)) (List.replicate (4 : Nat) (0 : Int))) else false then false = true else ∃ (y : Nat), ((0 : Nat) = (0 : Nat) ∧ (0 : Nat) = (0 : Nat)
  ∧ Prod.snd (putM k f bit (Prod.fst (shape19 side l (IntKind.wrap IntKind.i64 ((12 : Int) + Int.tmod (IntKind.wrap IntKind.i64 n) (13 : Int)))), Prod.snd (shape19 side l (IntKind.wrap IntKind.i64 ((12 : Int) + Int.tmod
  (IntKind.wrap IntKind.i64 n) (13 : Int)))))) = Prod.snd (putM k f bit (Prod.fst (shape19 side l (IntKind.wrap IntKind.i64 ((12 : Int) + Int.tmod (IntKind.wrap IntKind.i64 n) (13 : Int)))), Prod.snd (shape19 side l
  (IntKind.wrap IntKind.i64 ((12 : Int) + Int.tmod (IntKind.wrap IntKind.i64 n) (13 : Int)))))) ∧ n_1 = n_1 ∧ IntKind.wrap IntKind.i64 ((↑x : Int) + (1 : Int)) = (↑y : Int) ∧ Prod.fst (shape19 side l (IntKind.wrap
  IntKind.i64 ((12 : Int) + Int.tmod (IntKind.wrap IntKind.i64 n) (13 : Int)))) = Prod.fst (shape19 side l (IntKind.wrap IntKind.i64 ((12 : Int) + Int.tmod (IntKind.wrap IntKind.i64 n) (13 : Int)))) ∧ Prod.snd (shape19 side l
  (IntKind.wrap IntKind.i64 ((12 : Int) + Int.tmod (IntKind.wrap IntKind.i64 n) (13 : Int)))) = Prod.snd (shape19 side l (IntKind.wrap IntKind.i64 ((12 : Int) + Int.tmod (IntKind.wrap IntKind.i64 n) (13 : Int)))) ∧ false =
  false ∧ Prod.fst (Prod.fst (putM k f bit (Prod.fst (shape19 side l (IntKind.wrap IntKind.i64 ((12 : Int) + Int.tmod (IntKind.wrap IntKind.i64 n) (13 : Int)))), Prod.snd (shape19 side l (IntKind.wrap IntKind.i64 ((12 : Int)
  + Int.tmod (IntKind.wrap IntKind.i64 n) (13 : Int))))))) = Prod.fst (Prod.fst (putM k f bit (Prod.fst (shape19 side l (IntKind.wrap IntKind.i64 ((12 : Int) + Int.tmod (IntKind.wrap IntKind.i64 n) (13 : Int)))), Prod.snd
  (shape19 side l (IntKind.wrap IntKind.i64 ((12 : Int) + Int.tmod (IntKind.wrap IntKind.i64 n) (13 : Int))))))) ∧ Prod.snd (Prod.fst (putM k f bit (Prod.fst (shape19 side l (IntKind.wrap IntKind.i64 ((12 : Int) + Int.tmod
  (IntKind.wrap IntKind.i64 n) (13 : Int)))), Prod.snd (shape19 side l (IntKind.wrap IntKind.i64 ((12 : Int) + Int.tmod (IntKind.wrap IntKind.i64 n) (13 : Int))))))) = Prod.snd (Prod.fst (putM k f bit (Prod.fst (shape19 side
  l (IntKind.wrap IntKind.i64 ((12 : Int) + Int.tmod (IntKind.wrap IntKind.i64 n) (13 : Int)))), Prod.snd (shape19 side l (IntKind.wrap IntKind.i64 ((12 : Int) + Int.tmod (IntKind.wrap IntKind.i64 n) (13 : Int))))))) ∧ false
  = false) ∧ y ≤ (8 : Nat) ∧ (8 : Nat) - y < (8 : Nat) - x else ∀ (b : Bool), Prod.snd (putM k f bit (Prod.fst (shape19 side l (IntKind.wrap IntKind.i64 ((12 : Int) + Int.tmod (IntKind.wrap IntKind.i64 n) (13 : Int)))),
  Prod.snd (shape19 side l (IntKind.wrap IntKind.i64 ((12 : Int) + Int.tmod (IntKind.wrap IntKind.i64 n) (13 : Int)))))) = b → (((!b) = true → (!b) = true ∧ (!b) = true) ∧ (b = false → (!b) = true)) ∧ (bif b then true else
  Ty.eqb (Ty.cons (Ty.arr (8 : Nat) (Ty.int IntKind.i64)) (Ty.last (Ty.arr (8 : Nat) (Ty.arr (4 : Nat) (Ty.int IntKind.i64))))) (Prod.fst (Prod.fst (putM k f bit (Prod.fst (shape19 side l (IntKind.wrap IntKind.i64 ((12 :
  Int) + Int.tmod (IntKind.wrap IntKind.i64 n) (13 : Int)))), Prod.snd (shape19 side l (IntKind.wrap IntKind.i64 ((12 : Int) + Int.tmod (IntKind.wrap IntKind.i64 n) (13 : Int))))))), Prod.snd (Prod.fst (putM k f bit
  (Prod.fst (shape19 side l (IntKind.wrap IntKind.i64 ((12 : Int) + Int.tmod (IntKind.wrap IntKind.i64 n) (13 : Int)))), Prod.snd (shape19 side l (IntKind.wrap IntKind.i64 ((12 : Int) + Int.tmod (IntKind.wrap IntKind.i64 n)
  (13 : Int)))))))) (Prod.fst (shape19 side l (IntKind.wrap IntKind.i64 ((12 : Int) + Int.tmod (IntKind.wrap IntKind.i64 n) (13 : Int)))), Prod.snd (shape19 side l (IntKind.wrap IntKind.i64 ((12 : Int) + Int.tmod
  (IntKind.wrap IntKind.i64 n) (13 : Int)))))) = true else bif !Ty.eqb (Ty.arr (8 : Nat) (Ty.int IntKind.i64)) (Prod.fst (Prod.fst (putM k f bit (Prod.fst (shape19 side l (IntKind.wrap IntKind.i64 ((12 : Int) + Int.tmod
  (IntKind.wrap IntKind.i64 n) (13 : Int)))), Prod.snd (shape19 side l (IntKind.wrap IntKind.i64 ((12 : Int) + Int.tmod (IntKind.wrap IntKind.i64 n) (13 : Int)))))))) (Prod.fst (shape19 side l (IntKind.wrap IntKind.i64 ((12 :
  Int) + Int.tmod (IntKind.wrap IntKind.i64 n) (13 : Int))))) then ((true = false → false = true) ∧ (true = false → false = true) ∧ (true = false → false = true) ∧ (true = false → false = true)) ∧ false = true else bif
  !packR (Prod.fst (Prod.fst (putM k f bit (Prod.fst (shape19 side l (IntKind.wrap IntKind.i64 ((12 : Int) + Int.tmod (IntKind.wrap IntKind.i64 n) (13 : Int)))), Prod.snd (shape19 side l (IntKind.wrap IntKind.i64 ((12 : Int)
  + Int.tmod (IntKind.wrap IntKind.i64 n) (13 : Int))))))), Prod.snd (Prod.fst (putM k f bit (Prod.fst (shape19 side l (IntKind.wrap IntKind.i64 ((12 : Int) + Int.tmod (IntKind.wrap IntKind.i64 n) (13 : Int)))), Prod.snd
  (shape19 side l (IntKind.wrap IntKind.i64 ((12 : Int) + Int.tmod (IntKind.wrap IntKind.i64 n) (13 : Int)))))))) (IntKind.wrap IntKind.i64 ((12 : Int) + Int.tmod (IntKind.wrap IntKind.i64 n) (13 : Int))) then ((true = false
  → false = true) ∧ (true = false → false = true) ∧ (true = false → false = true)) ∧ false = true else bif !mayV (Prod.fst (shape19 side l (IntKind.wrap IntKind.i64 ((12 : Int) + Int.tmod (IntKind.wrap IntKind.i64 n) (13 :
  Int))))) n_1 (List.getD (Prod.snd (shape19 side l (IntKind.wrap IntKind.i64 ((12 : Int) + Int.tmod (IntKind.wrap IntKind.i64 n) (13 : Int))))) (Int.toNat n_1) (List.replicate (4 : Nat) (0 : Int))) (List.getD (Prod.snd
  (Prod.fst (putM k f bit (Prod.fst (shape19 side l (IntKind.wrap IntKind.i64 ((12 : Int) + Int.tmod (IntKind.wrap IntKind.i64 n) (13 : Int)))), Prod.snd (shape19 side l (IntKind.wrap IntKind.i64 ((12 : Int) + Int.tmod
  (IntKind.wrap IntKind.i64 n) (13 : Int)))))))) (Int.toNat n_1) (List.replicate (4 : Nat) (0 : Int))) then (((0 : Int) ≤ n_1 ∧ n_1 < (↑(8 : Nat) : Int)) ∧ Int.toNat n_1 < (8 : Nat) ∧ ((0 : Int) ≤ n_1 ∧ n_1 < (↑(8 : Nat) :
  Int)) ∧ Int.toNat n_1 < (8 : Nat) ∧ (smallV (List.getD (Prod.snd (shape19 side l (IntKind.wrap IntKind.i64 ((12 : Int) + Int.tmod (IntKind.wrap IntKind.i64 n) (13 : Int))))) (Int.toNat n_1) (List.replicate (4 : Nat) (0 :
  Int))) ∧ smallV (List.getD (Prod.snd (Prod.fst (putM k f bit (Prod.fst (shape19 side l (IntKind.wrap IntKind.i64 ((12 : Int) + Int.tmod (IntKind.wrap IntKind.i64 n) (13 : Int)))), Prod.snd (shape19 side l (IntKind.wrap
  IntKind.i64 ((12 : Int) + Int.tmod (IntKind.wrap IntKind.i64 n) (13 : Int)))))))) (Int.toNat n_1) (List.replicate (4 : Nat) (0 : Int)))) ∧ (true = false → false = true) ∧ (true = false → false = true)) ∧ false = true else
  bif !Prod.snd (putM k f bit (Prod.fst (shape19 side l (IntKind.wrap IntKind.i64 ((12 : Int) + Int.tmod (IntKind.wrap IntKind.i64 n) (13 : Int)))), Prod.snd (shape19 side l (IntKind.wrap IntKind.i64 ((12 : Int) + Int.tmod
  (IntKind.wrap IntKind.i64 n) (13 : Int)))))) == decide (spkF (corrF k f (Prod.fst (Prod.fst (putM k f bit (Prod.fst (shape19 side l (IntKind.wrap IntKind.i64 ((12 : Int) + Int.tmod (IntKind.wrap IntKind.i64 n) (13 :
  Int)))), Prod.snd (shape19 side l (IntKind.wrap IntKind.i64 ((12 : Int) + Int.tmod (IntKind.wrap IntKind.i64 n) (13 : Int))))))), Prod.snd (Prod.fst (putM k f bit (Prod.fst (shape19 side l (IntKind.wrap IntKind.i64 ((12 :
  Int) + Int.tmod (IntKind.wrap IntKind.i64 n) (13 : Int)))), Prod.snd (shape19 side l (IntKind.wrap IntKind.i64 ((12 : Int) + Int.tmod (IntKind.wrap IntKind.i64 n) (13 : Int))))))))) = (1 : Int)) then (((0 : Int) ≤ n_1 ∧
  n_1 < (↑(8 : Nat) : Int)) ∧ Int.toNat n_1 < (8 : Nat) ∧ ((0 : Int) ≤ n_1 ∧ n_1 < (↑(8 : Nat) : Int)) ∧ Int.toNat n_1 < (8 : Nat) ∧ (smallV (List.getD (Prod.snd (shape19 side l (IntKind.wrap IntKind.i64 ((12 : Int) +
  Int.tmod (IntKind.wrap IntKind.i64 n) (13 : Int))))) (Int.toNat n_1) (List.replicate (4 : Nat) (0 : Int))) ∧ smallV (List.getD (Prod.snd (Prod.fst (putM k f bit (Prod.fst (shape19 side l (IntKind.wrap IntKind.i64 ((12 :
  Int) + Int.tmod (IntKind.wrap IntKind.i64 n) (13 : Int)))), Prod.snd (shape19 side l (IntKind.wrap IntKind.i64 ((12 : Int) + Int.tmod (IntKind.wrap IntKind.i64 n) (13 : Int)))))))) (Int.toNat n_1) (List.replicate (4 : Nat)
  (0 : Int)))) ∧ (true = false → false = true)) ∧ false = true else (((0 : Int) ≤ n_1 ∧ n_1 < (↑(8 : Nat) : Int)) ∧ Int.toNat n_1 < (8 : Nat) ∧ ((0 : Int) ≤ n_1 ∧ n_1 < (↑(8 : Nat) : Int)) ∧ Int.toNat n_1 < (8 : Nat) ∧
  smallV (List.getD (Prod.snd (shape19 side l (IntKind.wrap IntKind.i64 ((12 : Int) + Int.tmod (IntKind.wrap IntKind.i64 n) (13 : Int))))) (Int.toNat n_1) (List.replicate (4 : Nat) (0 : Int))) ∧ smallV (List.getD (Prod.snd
  (Prod.fst (putM k f bit (Prod.fst (shape19 side l (IntKind.wrap IntKind.i64 ((12 : Int) + Int.tmod (IntKind.wrap IntKind.i64 n) (13 : Int)))), Prod.snd (shape19 side l (IntKind.wrap IntKind.i64 ((12 : Int) + Int.tmod
  (IntKind.wrap IntKind.i64 n) (13 : Int)))))))) (Int.toNat n_1) (List.replicate (4 : Nat) (0 : Int)))) ∧ bif !Prod.snd (putM k f bit (Prod.fst (shape19 side l (IntKind.wrap IntKind.i64 ((12 : Int) + Int.tmod (IntKind.wrap
  IntKind.i64 n) (13 : Int)))), Prod.snd (shape19 side l (IntKind.wrap IntKind.i64 ((12 : Int) + Int.tmod (IntKind.wrap IntKind.i64 n) (13 : Int)))))) == Prod.snd (putM k f bit (Prod.fst (shape19 side l (IntKind.wrap
  IntKind.i64 ((12 : Int) + Int.tmod (IntKind.wrap IntKind.i64 n) (13 : Int)))), Prod.snd (shape19 side l (IntKind.wrap IntKind.i64 ((12 : Int) + Int.tmod (IntKind.wrap IntKind.i64 n) (13 : Int)))))) then false = true else ∃
  (x : Nat), (((0 : Nat) = (0 : Nat) ∧ (0 : Nat) = (0 : Nat) ∧ Prod.snd (putM k f bit (Prod.fst (shape19 side l (IntKind.wrap IntKind.i64 ((12 : Int) + Int.tmod (IntKind.wrap IntKind.i64 n) (13 : Int)))), Prod.snd (shape19
  side l (IntKind.wrap IntKind.i64 ((12 : Int) + Int.tmod (IntKind.wrap IntKind.i64 n) (13 : Int)))))) = Prod.snd (putM k f bit (Prod.fst (shape19 side l (IntKind.wrap IntKind.i64 ((12 : Int) + Int.tmod (IntKind.wrap
  IntKind.i64 n) (13 : Int)))), Prod.snd (shape19 side l (IntKind.wrap IntKind.i64 ((12 : Int) + Int.tmod (IntKind.wrap IntKind.i64 n) (13 : Int)))))) ∧ n_1 = n_1 ∧ (0 : Int) = (↑x : Int) ∧ Prod.fst (shape19 side l
  (IntKind.wrap IntKind.i64 ((12 : Int) + Int.tmod (IntKind.wrap IntKind.i64 n) (13 : Int)))) = Prod.fst (shape19 side l (IntKind.wrap IntKind.i64 ((12 : Int) + Int.tmod (IntKind.wrap IntKind.i64 n) (13 : Int)))) ∧ Prod.snd
  (shape19 side l (IntKind.wrap IntKind.i64 ((12 : Int) + Int.tmod (IntKind.wrap IntKind.i64 n) (13 : Int)))) = Prod.snd (shape19 side l (IntKind.wrap IntKind.i64 ((12 : Int) + Int.tmod (IntKind.wrap IntKind.i64 n) (13 :
  Int)))) ∧ false = false ∧ Prod.fst (Prod.fst (putM k f bit (Prod.fst (shape19 side l (IntKind.wrap IntKind.i64 ((12 : Int) + Int.tmod (IntKind.wrap IntKind.i64 n) (13 : Int)))), Prod.snd (shape19 side l (IntKind.wrap
  IntKind.i64 ((12 : Int) + Int.tmod (IntKind.wrap IntKind.i64 n) (13 : Int))))))) = Prod.fst (Prod.fst (putM k f bit (Prod.fst (shape19 side l (IntKind.wrap IntKind.i64 ((12 : Int) + Int.tmod (IntKind.wrap IntKind.i64 n)
  (13 : Int)))), Prod.snd (shape19 side l (IntKind.wrap IntKind.i64 ((12 : Int) + Int.tmod (IntKind.wrap IntKind.i64 n) (13 : Int))))))) ∧ Prod.snd (Prod.fst (putM k f bit (Prod.fst (shape19 side l (IntKind.wrap IntKind.i64
  ((12 : Int) + Int.tmod (IntKind.wrap IntKind.i64 n) (13 : Int)))), Prod.snd (shape19 side l (IntKind.wrap IntKind.i64 ((12 : Int) + Int.tmod (IntKind.wrap IntKind.i64 n) (13 : Int))))))) = Prod.snd (Prod.fst (putM k f bit
  (Prod.fst (shape19 side l (IntKind.wrap IntKind.i64 ((12 : Int) + Int.tmod (IntKind.wrap IntKind.i64 n) (13 : Int)))), Prod.snd (shape19 side l (IntKind.wrap IntKind.i64 ((12 : Int) + Int.tmod (IntKind.wrap IntKind.i64 n)
  (13 : Int))))))) ∧ false = false) ∧ x ≤ (8 : Nat)) ∧ ∀ (x : Nat), x ≤ (8 : Nat) → IntKind.min IntKind.i64 ≤ (↑x : Int) ∧ (↑x : Int) ≤ IntKind.max IntKind.i64 → bif decide ((↑x : Int) < (8 : Int)) then ∀ (b : Bool),
  (!decide ((↑x : Int) = n_1)) = b → ((b = true → b = true ∧ b = true ∧ (0 : Int) ≤ (↑x : Int) ∧ (↑x : Int) < (↑(8 : Nat) : Int)) ∧ (b = true → b = true ∧ Int.toNat (↑x : Int) < (8 : Nat)) ∧ (b = true → b = true ∧ b = true
  ∧ (0 : Int) ≤ (↑x : Int) ∧ (↑x : Int) < (↑(8 : Nat) : Int)) ∧ (b = true → b = true ∧ Int.toNat (↑x : Int) < (8 : Nat)) ∧ (b = true → b = true ∧ b = true) ∧ (b = true → b = true)) ∧ bif bif b then !Ty.eqb (Ty.arr (4 : Nat)
  (Ty.int IntKind.i64)) (List.getD (Prod.snd (Prod.fst (putM k f bit (Prod.fst (shape19 side l (IntKind.wrap IntKind.i64 ((12 : Int) + Int.tmod (IntKind.wrap IntKind.i64 n) (13 : Int)))), Prod.snd (shape19 side l
  (IntKind.wrap IntKind.i64 ((12 : Int) + Int.tmod (IntKind.wrap IntKind.i64 n) (13 : Int)))))))) (Int.toNat (↑x : Int)) (List.replicate (4 : Nat) (0 : Int))) (List.getD (Prod.snd (shape19 side l (IntKind.wrap IntKind.i64
  ((12 : Int) + Int.tmod (IntKind.wrap IntKind.i64 n) (13 : Int))))) (Int.toNat (↑x : Int)) (List.replicate (4 : Nat) (0 : Int))) else false then false = true else ∃ (y : Nat), ((0 : Nat) = (0 : Nat) ∧ (0 : Nat) = (0 : Nat)
  ∧ Prod.snd (putM k f bit (Prod.fst (shape19 side l (IntKind.wrap IntKind.i64 ((12 : Int) + Int.tmod (IntKind.wrap IntKind.i64 n) (13 : Int)))), Prod.snd (shape19 side l (IntKind.wrap IntKind.i64 ((12 : Int) + Int.tmod
  (IntKind.wrap IntKind.i64 n) (13 : Int)))))) = Prod.snd (putM k f bit (Prod.fst (shape19 side l (IntKind.wrap IntKind.i64 ((12 : Int) + Int.tmod (IntKind.wrap IntKind.i64 n) (13 : Int)))), Prod.snd (shape19 side l
  (IntKind.wrap IntKind.i64 ((12 : Int) + Int.tmod (IntKind.wrap IntKind.i64 n) (13 : Int)))))) ∧ n_1 = n_1 ∧ IntKind.wrap IntKind.i64 ((↑x : Int) + (1 : Int)) = (↑y : Int) ∧ Prod.fst (shape19 side l (IntKind.wrap
  IntKind.i64 ((12 : Int) + Int.tmod (IntKind.wrap IntKind.i64 n) (13 : Int)))) = Prod.fst (shape19 side l (IntKind.wrap IntKind.i64 ((12 : Int) + Int.tmod (IntKind.wrap IntKind.i64 n) (13 : Int)))) ∧ Prod.snd (shape19 side l
  (IntKind.wrap IntKind.i64 ((12 : Int) + Int.tmod (IntKind.wrap IntKind.i64 n) (13 : Int)))) = Prod.snd (shape19 side l (IntKind.wrap IntKind.i64 ((12 : Int) + Int.tmod (IntKind.wrap IntKind.i64 n) (13 : Int)))) ∧ false =
  false ∧ Prod.fst (Prod.fst (putM k f bit (Prod.fst (shape19 side l (IntKind.wrap IntKind.i64 ((12 : Int) + Int.tmod (IntKind.wrap IntKind.i64 n) (13 : Int)))), Prod.snd (shape19 side l (IntKind.wrap IntKind.i64 ((12 : Int)
  + Int.tmod (IntKind.wrap IntKind.i64 n) (13 : Int))))))) = Prod.fst (Prod.fst (putM k f bit (Prod.fst (shape19 side l (IntKind.wrap IntKind.i64 ((12 : Int) + Int.tmod (IntKind.wrap IntKind.i64 n) (13 : Int)))), Prod.snd
  (shape19 side l (IntKind.wrap IntKind.i64 ((12 : Int) + Int.tmod (IntKind.wrap IntKind.i64 n) (13 : Int))))))) ∧ Prod.snd (Prod.fst (putM k f bit (Prod.fst (shape19 side l (IntKind.wrap IntKind.i64 ((12 : Int) + Int.tmod
  (IntKind.wrap IntKind.i64 n) (13 : Int)))), Prod.snd (shape19 side l (IntKind.wrap IntKind.i64 ((12 : Int) + Int.tmod (IntKind.wrap IntKind.i64 n) (13 : Int))))))) = Prod.snd (Prod.fst (putM k f bit (Prod.fst (shape19 side
  l (IntKind.wrap IntKind.i64 ((12 : Int) + Int.tmod (IntKind.wrap IntKind.i64 n) (13 : Int)))), Prod.snd (shape19 side l (IntKind.wrap IntKind.i64 ((12 : Int) + Int.tmod (IntKind.wrap IntKind.i64 n) (13 : Int))))))) ∧ false
  = false) ∧ y ≤ (8 : Nat) ∧ (8 : Nat) - y < (8 : Nat) - x else ∀ (b : Bool), Prod.snd (putM k f bit (Prod.fst (shape19 side l (IntKind.wrap IntKind.i64 ((12 : Int) + Int.tmod (IntKind.wrap IntKind.i64 n) (13 : Int)))),
  Prod.snd (shape19 side l (IntKind.wrap IntKind.i64 ((12 : Int) + Int.tmod (IntKind.wrap IntKind.i64 n) (13 : Int)))))) = b → (((!b) = true → (!b) = true ∧ (!b) = true) ∧ (b = false → (!b) = true)) ∧ (bif b then true else
  Ty.eqb (Ty.cons (Ty.arr (8 : Nat) (Ty.int IntKind.i64)) (Ty.last (Ty.arr (8 : Nat) (Ty.arr (4 : Nat) (Ty.int IntKind.i64))))) (Prod.fst (Prod.fst (putM k f bit (Prod.fst (shape19 side l (IntKind.wrap IntKind.i64 ((12 :
  Int) + Int.tmod (IntKind.wrap IntKind.i64 n) (13 : Int)))), Prod.snd (shape19 side l (IntKind.wrap IntKind.i64 ((12 : Int) + Int.tmod (IntKind.wrap IntKind.i64 n) (13 : Int))))))), Prod.snd (Prod.fst (putM k f bit
  (Prod.fst (shape19 side l (IntKind.wrap IntKind.i64 ((12 : Int) + Int.tmod (IntKind.wrap IntKind.i64 n) (13 : Int)))), Prod.snd (shape19 side l (IntKind.wrap IntKind.i64 ((12 : Int) + Int.tmod (IntKind.wrap IntKind.i64 n)
  (13 : Int)))))))) (Prod.fst (shape19 side l (IntKind.wrap IntKind.i64 ((12 : Int) + Int.tmod (IntKind.wrap IntKind.i64 n) (13 : Int)))), Prod.snd (shape19 side l (IntKind.wrap IntKind.i64 ((12 : Int) + Int.tmod
  (IntKind.wrap IntKind.i64 n) (13 : Int)))))) = true
theorem vcd13 (k : List Int) (f : Int) (bit : Bool) (side l : List Int) (n : Int) : Pd13 k f bit side l n = vcFun Cd13 (annd13 k f bit side l n) Go.Proofs.Tryd.f13 [⟨.arr 16 (.int .u8), k⟩, ⟨.int .i64, f⟩, ⟨.bool, bit⟩, ⟨.arr 8 (.int .i64), side⟩, ⟨.arr 8 (.int .u32), l⟩, ⟨.int .u8, n⟩] [] (outd13 k f bit side l n) := by kernel_rfl

end Go.SL.A

/- MarkWithin: plain. -/
namespace Go.SL.A
open Go Go.SL Go.SL.S
set_option maxRecDepth 100000

theorem giveB_in {n : Int} (h : 12 ≤ n ∧ n ≤ 24) : giveB n = 8 * n - 64 := by unfold giveB; rw [if_neg (by omega)]
theorem shape_pack {side l : List Int} {n : Int} (hx : ∀ x ∈ l, 0 ≤ x ∧ x ≤ 4294967295) (hn : 12 ≤ n ∧ n ≤ 24) : ∀ b : Nat, b < 8 → sumSz ((shape19 side l n).2.getD b (List.replicate 4 0)) = (giveV (shape19 side l n).1 (giveB n)).getD b 0 := by
  intro b hb
  have hk := giveK side hn b hb
  have e : (giveV (shape19 side l n).1 (giveB n)).getD b 0 = (refF (held8 side) (8 * n - 64)).getD b 0 := by
    rw [giveB_in hn, ← give_eq (held8 side) (B := 8 * n - 64) (by omega)]
    show (giveV (held8 side) (8 * n - 64)).getD b 0 = _
    rw [(giveV_ok (held8_right side) (by omega)).2]
  rw [e]
  show sumSz ((shRows _ l).getD b (List.replicate 4 0)) = _
  rw [List.getD_eq_getElem?_getD, rows_at _ l hb, Option.getD_some]
  exact (shRow_ok hk (l_fit hx b).1).2
theorem pack_ok {s : SHM} {n : Int} (hn : 12 ≤ n ∧ n ≤ 24) (h : Rt s) (hk : ∀ b : Nat, b < 8 → sumSz (s.2.getD b (List.replicate 4 0)) = (giveV s.1 (giveB n)).getD b 0) : packR s n = true := by
  unfold packR
  rw [if_neg (by rw [giveB_in hn, h.rt]; simp; omega)]
  refine List.all_eq_true.2 fun b hb => ?_
  have hb := List.mem_range.1 hb
  have hz := h.sz (b : Int) (by omega)
  have l8 := h.l8
  have hl : (s.2.getD b (List.replicate 4 0)).length = 4 := h.l4 _ (getD_mem (by omega))
  have e : rowZ s.2 (b : Int) = s.2.getD b (List.replicate 4 0) := rfl
  rw [e] at hz
  rw [pulses_sz hl hz, hk b hb]
  exact decide_eq_true rfl
theorem may_self {s : List Int} {b : Int} (hr : rightF s = true) (hb : 0 ≤ b ∧ b < 8) {y z : List Int} (h : farM y z 4 ≤ movF s b) : mayV s b y z = true := by
  unfold mayV mayM
  rw [hr, decide_eq_true hb.1, decide_eq_true hb.2, decide_eq_true h]; rfl
theorem mov_pos {s : List Int} {b : Int} (hr : rightF s = true) : 0 ≤ movF s b := by
  unfold movF
  split
  · exact Int.ediv_nonneg (bud_fit hr b 8).1 (Int.pow_nonneg (by decide))
  · omega
theorem pured13 (k : List Int) (f : Int) (bit : Bool) (side l : List Int) (n : Int) (hw : side.length = 8 ∧ (∀ x ∈ l, 0 ≤ x ∧ x ≤ 4294967295) ∧ 0 ≤ n ∧ n ≤ 255) : Pd13 k f bit side l n := by
  obtain ⟨hs, hx, hn⟩ := hw
  unfold Pd13
  obtain ⟨e1, e2⟩ := size_fit hn
  rw [e1]
  generalize 12 + Int.tmod n 13 = N at *
  have h := shape_rt (n := N) hs hx e2
  have hk := shape_pack (side := side) hx e2
  simp only [pair_eta]
  generalize shape19 side l N = s at *
  have hb := band_fit k f
  obtain ⟨y', W, R⟩ := h.put (k := k) (f := f) (bit := bit)
  have hq := h.sz _ hb
  have l8 := h.l8
  have hl : (rowZ s.2 (bandK k f)).length = 4 := h.l4 _ (getD_mem (by omega))
  have hrow : List.getD s.2 (bandK k f).toNat (List.replicate 4 0) = rowZ s.2 (bandK k f) := rfl
  have hrow' : List.getD (putM k f bit s).1.2 (bandK k f).toNat (List.replicate 4 0) = y' := W.row
  have O := W.o
  have hsm : smallV (rowZ s.2 (bandK k f)) := small_of (okRow_of hq)
  have hsm' : smallV y' := small_of (okRow_of (by rw [O.sz]; exact hq))
  have hmay : mayV s.1 (bandK k f) (rowZ s.2 (bandK k f)) y' = true := by
    refine may_self h.rt hb ?_
    rcases O.near with e | e
    · exact e
    · rw [e, far_self hl]; exact mov_pos h.rt
  have hset : (putM k f bit s).1.2 = List.set s.2 (bandK k f).toNat y' := by rw [O.sh]
  have hoth : ∀ b : Nat, (b : Int) ≠ bandK k f → (putM k f bit s).1.2.getD b (List.replicate 4 0) = s.2.getD b (List.replicate 4 0) := fun b hbn => by
    rw [hset, List.getD_eq_getElem?_getD, List.getElem?_set_ne (by omega), ← List.getD_eq_getElem?_getD]
  have hpk : packR (putM k f bit s).1 N = true := pack_ok e2 R (fun b hb8 => by
    rw [W.sd]
    by_cases e : (b : Int) = bandK k f
    · have eb : b = (bandK k f).toNat := by omega
      rw [eb, hrow', O.sz, ← hrow, ← eb]; exact hk b hb8
    · rw [hoth b e]; exact hk b hb8)
  have hno : (putM k f bit s).2 = false → (putM k f bit s).1 = s := fun hf => put_same h W (O.no hf)
  have hsd := W.sd
  have hspk := W.spk
  unfold wantF at hspk
  refine ⟨by decide, ⟨e2.1, e2.2⟩, ?_⟩
  rintro _ rfl
  have hde : ∀ v : Int, ((putM k f bit s).2 = true ↔ spkF (corrF k f (putM k f bit s).1) = v) → ((putM k f bit s).2 == decide (spkF (corrF k f (putM k f bit s).1) = v)) = true := fun v h => by
    cases hc : (putM k f bit s).2 with
    | true => rw [hc] at h; rw [decide_eq_true (h.1 rfl)]; rfl
    | false => rw [hc] at h; rw [decide_eq_false (fun hh => by cases h.2 hh)]; rfl
  cases bit
  case' false => rw [cond_false, hde 1 hspk]
  case' true => rw [cond_true, hde (-1) hspk]
  all_goals
    rw [hrow, hrow', hsd, eqb8, hpk, hmay, beq_self_eq_true, Bool.not_true, cond_false, cond_false, cond_false, cond_false, cond_false]
    refine ⟨⟨⟨hb.1, by omega⟩, by omega, ⟨hb.1, by omega⟩, by omega, hsm, hsm'⟩, 0, ⟨by simp, by omega⟩, fun x hx8 _ => ?_⟩
    by_cases h8 : (x : Int) < 8
    · rw [decide_eq_true h8, cond_true]
      rintro b hbx
      have fin : ∃ y : Nat, IntKind.i64.wrap ((x : Int) + 1) = (y : Int) ∧ y ≤ 8 ∧ 8 - y < 8 - x := ⟨x + 1, step_i (by omega), by omega, by omega⟩
      cases b with
      | true =>
        have hne : (x : Int) ≠ bandK k f := fun e => by rw [decide_eq_true e] at hbx; cases hbx
        rw [Int.toNat_natCast, hoth x hne, cond_true, eqb4, Bool.not_true, cond_false]
        obtain ⟨y, y1, y2, y3⟩ := fin
        refine ⟨by simp; omega, y, ⟨?_, y2, y3⟩⟩
        simp only [true_and, and_true]; exact y1
      | false =>
        rw [cond_false, cond_false]
        obtain ⟨y, y1, y2, y3⟩ := fin
        refine ⟨by simp, y, ⟨?_, y2, y3⟩⟩
        simp only [true_and, and_true]; exact y1
    · rw [decide_eq_false h8, cond_false]
      rintro b hbx
      refine ⟨by cases b <;> simp, ?_⟩
      cases b with
      | true => rfl
      | false => rw [cond_false, hno hbx]; exact eqbSH _
end Go.SL.A

/- Functions do what they are held to do. -/
namespace Go.SL.A
open Go Go.SL Go.SL.S
theorem sndd13 : Sound Go.Proofs.Tryd.prog Gd13 := sndd14.add ⟨_, Go.Proofs.Tryd.func13, by kernel_rfl, by kernel_rfl⟩ (by
  intro args ins out h hp
  unfold spd13 at h
  split at h
  · rename_i k f bit side l n
    cases h
    exact vcFun_ok (C := Cd13) good sndd14 Meth.none mix Go.Proofs.Tryd.func13 (annd13 k f bit side l n) (fun hw => by rw [← vcd13 k f bit side l n]; exact pured13 k f bit side l n (hwd5 hw))
  · cases h)

end Go.SL.A

/- MarkWithin: the law returns true, whatever its arguments; each argument reads afterwards as before. No condition. -/
namespace Go.Proofs.YthhfccnhkadkcaaDoor
open Go Go.SL Go.SL.S Go.ChangeShapes Go.WideShapes Go.ChangeAt Go.WideMaps Go.WideElems Go.RowKit
set_option maxRecDepth 100000

theorem parsT : ((Go.Proofs.Tryd.f13.params.toList).all fun t => Nat.blt t Go.Proofs.Tryd.prog.types.size) = true := by kernel_rfl
theorem parsL : Go.Proofs.Tryd.f13.params.toList = [23, 3, 4, 24, 43, 5] := by kernel_rfl
theorem law_pure : ∀ avs bls, argsOk Go.SL.A.D Go.Proofs.Tryd.f13.params.toList 0 avs bls → VCall Go.Proofs.Tryd.prog 13 avs bls ⟨[], .v .bool true, [], []⟩ := by
  rw [parsL]
  intro avs bls h
  replace h : ∃ (t : Ty) (x : t.I) (avs' : List AV), Go.SL.A.D.ty 23 = some t ∧ avs = ⟨t, x⟩ :: avs' ∧ argsOk Go.SL.A.D [3, 4, 24, 43, 5] 0 avs' bls := h
  obtain ⟨t, x0, avs, ht, rfl, h⟩ := h
  obtain rfl : .arr 16 (.int .u8) = t := Option.some.inj ((show (some (.arr 16 (.int .u8)) : Option Ty) = Go.SL.A.D.ty 23 by kernel_rfl).trans ht)
  replace h : ∃ (t : Ty) (x : t.I) (avs' : List AV), Go.SL.A.D.ty 3 = some t ∧ avs = ⟨t, x⟩ :: avs' ∧ argsOk Go.SL.A.D [4, 24, 43, 5] 0 avs' bls := h
  obtain ⟨t, x1, avs, ht, rfl, h⟩ := h
  obtain rfl : .int .i64 = t := Option.some.inj ((show (some (.int .i64) : Option Ty) = Go.SL.A.D.ty 3 by kernel_rfl).trans ht)
  replace h : ∃ (t : Ty) (x : t.I) (avs' : List AV), Go.SL.A.D.ty 4 = some t ∧ avs = ⟨t, x⟩ :: avs' ∧ argsOk Go.SL.A.D [24, 43, 5] 0 avs' bls := h
  obtain ⟨t, x2, avs, ht, rfl, h⟩ := h
  obtain rfl : .bool = t := Option.some.inj ((show (some (.bool) : Option Ty) = Go.SL.A.D.ty 4 by kernel_rfl).trans ht)
  replace h : ∃ (t : Ty) (x : t.I) (avs' : List AV), Go.SL.A.D.ty 24 = some t ∧ avs = ⟨t, x⟩ :: avs' ∧ argsOk Go.SL.A.D [43, 5] 0 avs' bls := h
  obtain ⟨t, x3, avs, ht, rfl, h⟩ := h
  obtain rfl : .arr 8 (.int .i64) = t := Option.some.inj ((show (some (.arr 8 (.int .i64)) : Option Ty) = Go.SL.A.D.ty 24 by kernel_rfl).trans ht)
  replace h : ∃ (t : Ty) (x : t.I) (avs' : List AV), Go.SL.A.D.ty 43 = some t ∧ avs = ⟨t, x⟩ :: avs' ∧ argsOk Go.SL.A.D [5] 0 avs' bls := h
  obtain ⟨t, x4, avs, ht, rfl, h⟩ := h
  obtain rfl : .arr 8 (.int .u32) = t := Option.some.inj ((show (some (.arr 8 (.int .u32)) : Option Ty) = Go.SL.A.D.ty 43 by kernel_rfl).trans ht)
  replace h : ∃ (t : Ty) (x : t.I) (avs' : List AV), Go.SL.A.D.ty 5 = some t ∧ avs = ⟨t, x⟩ :: avs' ∧ argsOk Go.SL.A.D [] 0 avs' bls := h
  obtain ⟨t, x5, avs, ht, rfl, h⟩ := h
  obtain rfl : .int .u8 = t := Option.some.inj ((show (some (.int .u8) : Option Ty) = Go.SL.A.D.ty 5 by kernel_rfl).trans ht)
  obtain ⟨rfl, rfl⟩ : avs = [] ∧ bls = [] := h
  have q := (Go.SL.A.sndd13 13 Go.SL.A.spd13 rfl).2 [⟨.arr 16 (.int .u8), x0⟩, ⟨.int .i64, x1⟩, ⟨.bool, x2⟩, ⟨.arr 8 (.int .i64), x3⟩, ⟨.arr 8 (.int .u32), x4⟩, ⟨.int .u8, x5⟩] [] _ rfl (trivial)
  exact q

abbrev laidL : List (String × DataW Unit) := [("belfry/sip.signs", Rows.laid_belfry_sip_signs)]
theorem lifted (os : Os) (started : os.Started) (H : Type) (enc : TypeId × Value → H) :
    ReturnsInHanded {} Go.Proofs.Tryd.checked os 13 .any (fun w args => (Rows.markWithinSpec.pre enc Go.Proofs.Tryd.prog Go.Proofs.Tryd.f13 [] false w args ∧ laidMetH Go.Proofs.Tryd.prog laidL w) ∧ sizedMet enc Go.Proofs.Tryd.prog Go.Proofs.Tryd.f13 (OpenSpec.ofChange Rows.markWithinSpec) false w args) (Rows.markWithinSpec.post enc Go.Proofs.Tryd.prog Go.Proofs.Tryd.f13 false true false false) := by
  refine returnsInHanded_of_change_and (C := Go.Proofs.Tryd.checked) (X := fun w _ => laidMetH Go.Proofs.Tryd.prog laidL w) (fun _ _ _ hh h => h.of_heap hh) Seat.own started (by kernel_rfl) Go.Proofs.Tryd.func13
    (ChangeSpec.witness_at (enc := enc) (C := Go.Proofs.Tryd.checked) (os := os) (X := fun w _ => laidMetH Go.Proofs.Tryd.prog laidL w) false (Seat.laidWorld os) #[.agg (Array.replicate 16 (.int .u8 0)), .int .i64 0, .bool false, .agg (Array.replicate 8 (.int .i64 0)), .agg (Array.replicate 8 (.int .u32 0)), .int .u8 0] 8 rfl (by kernel_rfl) (by kernel_rfl) (by kernel_rfl) (by kernel_rfl) (by kernel_rfl) (Seat.laidWorld_met os _)) ?_
  intro W base args ds gs before hval hW _ _ hL _
  refine law_calls (D := Go.SL.A.D) Go.SL.A.good Seat.kids Seat.slicesFull (fun t ht => Nat.le_of_ble_eq_true (List.all_eq_true.1 parsT t ht)) (by kernel_rfl) (show Go.Proofs.Tryd.f13.resultTypes = #[4] by kernel_rfl) Go.Proofs.Tryd.underlying4 rfl (fun ds h => ?_) law_pure (fun g a hg => Seat.signs_gl hL g a hg) hval hW
  have h : ds.length = 6 := h
  match ds, h with
  | [_, _, _, _, _, _], _ => rfl

theorem joined : joinedFacts Go.Proofs.Tryd.prog 13 Go.Proofs.Tryd.f13 Rows.markWithinSpec Rows.markWithinRow = true := by
  unfold joinedFacts
  exact (andT (andT (andT (andT (andT (andT (andT (andT (andT (andT (andT (andT (andT (andT (andT (andT (andT (andT (andT (andT (andT (andT (andT (andT (andT (andT (andT (andT (andT (andT (andT (by as_aux_lemma => kernel_rfl) Seat.laidOut) Seat.mapsRowed) (by as_aux_lemma => kernel_rfl)) (by as_aux_lemma => kernel_rfl)) (by as_aux_lemma => kernel_rfl)) Seat.stops) (by as_aux_lemma => kernel_rfl)) Seat.knobs) (by as_aux_lemma => kernel_rfl)) (by as_aux_lemma => kernel_rfl)) (by as_aux_lemma => kernel_rfl)) (by as_aux_lemma => kernel_rfl)) (by as_aux_lemma => kernel_rfl)) (by as_aux_lemma => kernel_rfl)) (by as_aux_lemma => kernel_rfl)) (by as_aux_lemma => kernel_rfl)) (by as_aux_lemma => kernel_rfl)) (by as_aux_lemma => kernel_rfl)) (by as_aux_lemma => kernel_rfl)) (by as_aux_lemma => kernel_rfl)) (by as_aux_lemma => kernel_rfl)) (by as_aux_lemma => kernel_rfl)) (by as_aux_lemma => kernel_rfl)) Seat.heard) Seat.mayEnter) (by rw [Seat.lifts]; rfl)) (by rw [Seat.made]; rfl)) (by as_aux_lemma => kernel_rfl)) (by as_aux_lemma => kernel_rfl)) (by as_aux_lemma => kernel_rfl)) (by as_aux_lemma => kernel_rfl))

theorem markWithin_holds : Rows.MarkWithinSaid :=
  OpenClaim.holds_of_wide 13 Go.Proofs.Tryd.f13 rfl rfl rfl rfl rfl rfl rfl ⟨rfl, rfl, rfl, rfl, rfl⟩ rfl rfl rfl rfl rfl (by kernel_rfl) Go.Proofs.Tryd.func13 joined
    (of_decide_eq_true (by kernel_rfl)) (by unfold Func.isWrapper; first | (rw [if_pos (by decide +kernel)]; kernel_rfl) | (rw [if_neg (by decide +kernel)]; exact ⟨rfl, rfl⟩))
    (fun os started H enc _ => lifted os started H enc)

theorem noStand : ((Go.Proofs.Tryd.f13.params.toList).all fun t => !Go.Proofs.Tryd.prog.wantsStandIn t) = true := by kernel_rfl
theorem markWithinCard_holds : Rows.MarkWithinCardSaid :=
  Claim7.holds_tied_plain_at .later [] [.data] true (true, "c88e0687c222961115da2a84d0fc17cee095a0dd0289832c0327b0b27169c1bb") true
    markWithin_holds (fun _ h => by cases h) (by kernel_rfl) (fun _ h => by cases h) markWithin_row_tie rfl ⟨rfl, rfl⟩ (by kernel_rfl) rfl
    (fun f fn hf hfn => by
      obtain rfl : f = 13 := Option.some.inj (hf.symm.trans (by kernel_rfl))
      obtain rfl : fn = Go.Proofs.Tryd.f13 := Option.some.inj (hfn.symm.trans Go.Proofs.Tryd.func13)
      refine ⟨by kernel_rfl, fun j t ht => ?_⟩
      have hm := List.all_eq_true.1 noStand t (List.mem_of_getElem? (by rw [Array.getElem?_toList]; exact ht))
      exact (show Go.Proofs.Tryd.prog.wantsStandIn t = false by simpa using hm))
    (by kernel_rfl)

#print axioms markWithinCard_holds
end Go.Proofs.YthhfccnhkadkcaaDoor
