/- MarkOpposed returns true, whatever its arguments, which read afterwards as before: no condition but that the package-level table holds what the program's text lays (tied by the card). -/
import Derived.Test.YthhfccnhkadkcaaDoorRows
import Derived.Test.YthhfccnhkadkcaaDoorCards
import Derived.Test.YthhfccnhkadkcaaDoorTie
import Derived.Test.YthhfccnhkadkcaaDoorShape
import Derived.Test.YthhfccnhkadkcaaDoorKb
import Derived.Test.YthhfccnhkadkcaaDoorT

/- Functions and what they are held to do: bound to their code. -/
namespace Go.SL.A
open Go Go.SL Go.SL.S
set_option maxRecDepth 100000
noncomputable def Cd6 : Ctx := ⟨Go.Proofs.Tryd.prog, D, Gd14, (fun _ _ => none), fun _ => []⟩
def annd6 (_k : List Int) (_f : Int) (_bit : Bool) (_side _l : List Int) (_n : Int) : Nat → St → Option Ann := fun _ _ => none
def outd6 (_k : List Int) (_f : Int) (_bit : Bool) (_side _l : List Int) (_n : Int) : COut := ⟨[], .v .bool true, [], []⟩
def spd6 : Spec := fun args ins => match args, ins with
  | [⟨.arr 16 (.int .u8), k⟩, ⟨.int .i64, f⟩, ⟨.bool, bit⟩, ⟨.arr 8 (.int .i64), side⟩, ⟨.arr 8 (.int .u32), l⟩, ⟨.int .u8, n⟩], [] => some (outd6 k f bit side l n)
  | _, _ => none
def Gd6 := addG Gd14 6 spd6
def Pd6 (k : List Int) (f : Int) (bit : Bool) (side l : List Int) (n : Int) : Prop :=
  ((13 : Int) ≠ (0 : Int) ∧ (12 : Int) ≤ IntKind.wrap IntKind.i64 ((12 : Int) + Int.tmod (IntKind.wrap IntKind.i64 n) (13 : Int)) ∧ IntKind.wrap IntKind.i64 ((12 : Int) + Int.tmod (IntKind.wrap IntKind.i64 n) (13 : Int)) ≤
  (24 : Int)) ∧ bif bit then bif decide (spkF (corrF k f (Prod.fst (Prod.fst (putM k f bit (Prod.fst (shape19 side l (IntKind.wrap IntKind.i64 ((12 : Int) + Int.tmod (IntKind.wrap IntKind.i64 n) (13 : Int)))), Prod.snd
  (shape19 side l (IntKind.wrap IntKind.i64 ((12 : Int) + Int.tmod (IntKind.wrap IntKind.i64 n) (13 : Int))))))), Prod.snd (Prod.fst (putM k f bit (Prod.fst (shape19 side l (IntKind.wrap IntKind.i64 ((12 : Int) + Int.tmod
  (IntKind.wrap IntKind.i64 n) (13 : Int)))), Prod.snd (shape19 side l (IntKind.wrap IntKind.i64 ((12 : Int) + Int.tmod (IntKind.wrap IntKind.i64 n) (13 : Int))))))))) = IntKind.wrap IntKind.i64 ((0 : Int) - (1 : Int))) ==
  Prod.snd (putM k f bit (Prod.fst (shape19 side l (IntKind.wrap IntKind.i64 ((12 : Int) + Int.tmod (IntKind.wrap IntKind.i64 n) (13 : Int)))), Prod.snd (shape19 side l (IntKind.wrap IntKind.i64 ((12 : Int) + Int.tmod
  (IntKind.wrap IntKind.i64 n) (13 : Int)))))) then ∀ (b : Bool), (decide (spkF (corrF k f (Prod.fst (Prod.fst (putM k f (!bit) (Prod.fst (Prod.fst (putM k f bit (Prod.fst (shape19 side l (IntKind.wrap IntKind.i64 ((12 :
  Int) + Int.tmod (IntKind.wrap IntKind.i64 n) (13 : Int)))), Prod.snd (shape19 side l (IntKind.wrap IntKind.i64 ((12 : Int) + Int.tmod (IntKind.wrap IntKind.i64 n) (13 : Int))))))), Prod.snd (Prod.fst (putM k f bit
  (Prod.fst (shape19 side l (IntKind.wrap IntKind.i64 ((12 : Int) + Int.tmod (IntKind.wrap IntKind.i64 n) (13 : Int)))), Prod.snd (shape19 side l (IntKind.wrap IntKind.i64 ((12 : Int) + Int.tmod (IntKind.wrap IntKind.i64 n)
  (13 : Int)))))))))), Prod.snd (Prod.fst (putM k f (!bit) (Prod.fst (Prod.fst (putM k f bit (Prod.fst (shape19 side l (IntKind.wrap IntKind.i64 ((12 : Int) + Int.tmod (IntKind.wrap IntKind.i64 n) (13 : Int)))), Prod.snd
  (shape19 side l (IntKind.wrap IntKind.i64 ((12 : Int) + Int.tmod (IntKind.wrap IntKind.i64 n) (13 : Int))))))), Prod.snd (Prod.fst (putM k f bit (Prod.fst (shape19 side l (IntKind.wrap IntKind.i64 ((12 : Int) + Int.tmod
  (IntKind.wrap IntKind.i64 n) (13 : Int)))), Prod.snd (shape19 side l (IntKind.wrap IntKind.i64 ((12 : Int) + Int.tmod (IntKind.wrap IntKind.i64 n) (13 : Int)))))))))))) = (1 : Int)) == Prod.snd (putM k f (!bit) (Prod.fst
  (Prod.fst (putM k f bit (Prod.fst (shape19 side l (IntKind.wrap IntKind.i64 ((12 : Int) + Int.tmod (IntKind.wrap IntKind.i64 n) (13 : Int)))), Prod.snd (shape19 side l (IntKind.wrap IntKind.i64 ((12 : Int) + Int.tmod
  (IntKind.wrap IntKind.i64 n) (13 : Int))))))), Prod.snd (Prod.fst (putM k f bit (Prod.fst (shape19 side l (IntKind.wrap IntKind.i64 ((12 : Int) + Int.tmod (IntKind.wrap IntKind.i64 n) (13 : Int)))), Prod.snd (shape19 side l
  (IntKind.wrap IntKind.i64 ((12 : Int) + Int.tmod (IntKind.wrap IntKind.i64 n) (13 : Int)))))))))) = b → ∀ (b_1 : Bool), (bif b then decide ((-12 : Int) ≤ corrF k f (Prod.fst (Prod.fst (putM k f (!bit) (Prod.fst (Prod.fst
  (putM k f bit (Prod.fst (shape19 side l (IntKind.wrap IntKind.i64 ((12 : Int) + Int.tmod (IntKind.wrap IntKind.i64 n) (13 : Int)))), Prod.snd (shape19 side l (IntKind.wrap IntKind.i64 ((12 : Int) + Int.tmod (IntKind.wrap
  IntKind.i64 n) (13 : Int))))))), Prod.snd (Prod.fst (putM k f bit (Prod.fst (shape19 side l (IntKind.wrap IntKind.i64 ((12 : Int) + Int.tmod (IntKind.wrap IntKind.i64 n) (13 : Int)))), Prod.snd (shape19 side l (IntKind.wrap
  IntKind.i64 ((12 : Int) + Int.tmod (IntKind.wrap IntKind.i64 n) (13 : Int)))))))))), Prod.snd (Prod.fst (putM k f (!bit) (Prod.fst (Prod.fst (putM k f bit (Prod.fst (shape19 side l (IntKind.wrap IntKind.i64 ((12 : Int) +
  Int.tmod (IntKind.wrap IntKind.i64 n) (13 : Int)))), Prod.snd (shape19 side l (IntKind.wrap IntKind.i64 ((12 : Int) + Int.tmod (IntKind.wrap IntKind.i64 n) (13 : Int))))))), Prod.snd (Prod.fst (putM k f bit (Prod.fst
  (shape19 side l (IntKind.wrap IntKind.i64 ((12 : Int) + Int.tmod (IntKind.wrap IntKind.i64 n) (13 : Int)))), Prod.snd (shape19 side l (IntKind.wrap IntKind.i64 ((12 : Int) + Int.tmod (IntKind.wrap IntKind.i64 n) (13 :
  Int)))))))))))) else false) = b_1 → ((b = true → b = true) ∧ (b = true → b = true) ∧ (b_1 = true → b_1 = true) ∧ (b_1 = true → b_1 = true)) ∧ (bif b_1 then decide (corrF k f (Prod.fst (Prod.fst (putM k f (!bit) (Prod.fst
  (Prod.fst (putM k f bit (Prod.fst (shape19 side l (IntKind.wrap IntKind.i64 ((12 : Int) + Int.tmod (IntKind.wrap IntKind.i64 n) (13 : Int)))), Prod.snd (shape19 side l (IntKind.wrap IntKind.i64 ((12 : Int) + Int.tmod
  (IntKind.wrap IntKind.i64 n) (13 : Int))))))), Prod.snd (Prod.fst (putM k f bit (Prod.fst (shape19 side l (IntKind.wrap IntKind.i64 ((12 : Int) + Int.tmod (IntKind.wrap IntKind.i64 n) (13 : Int)))), Prod.snd (shape19 side l
  (IntKind.wrap IntKind.i64 ((12 : Int) + Int.tmod (IntKind.wrap IntKind.i64 n) (13 : Int)))))))))), Prod.snd (Prod.fst (putM k f (!bit) (Prod.fst (Prod.fst (putM k f bit (Prod.fst (shape19 side l (IntKind.wrap IntKind.i64
  ((12 : Int) + Int.tmod (IntKind.wrap IntKind.i64 n) (13 : Int)))), Prod.snd (shape19 side l (IntKind.wrap IntKind.i64 ((12 : Int) + Int.tmod (IntKind.wrap IntKind.i64 n) (13 : Int))))))), Prod.snd (Prod.fst (putM k f bit
  (Prod.fst (shape19 side l (IntKind.wrap IntKind.i64 ((12 : Int) + Int.tmod (IntKind.wrap IntKind.i64 n) (13 : Int)))), Prod.snd (shape19 side l (IntKind.wrap IntKind.i64 ((12 : Int) + Int.tmod (IntKind.wrap IntKind.i64 n)
  (13 : Int))))))))))) ≤ (12 : Int)) else false) = true else ∀ (b : Bool), false = b → ∀ (b_1 : Bool), (bif b then decide ((-12 : Int) ≤ corrF k f (Prod.fst (Prod.fst (putM k f (!bit) (Prod.fst (Prod.fst (putM k f bit
  (Prod.fst (shape19 side l (IntKind.wrap IntKind.i64 ((12 : Int) + Int.tmod (IntKind.wrap IntKind.i64 n) (13 : Int)))), Prod.snd (shape19 side l (IntKind.wrap IntKind.i64 ((12 : Int) + Int.tmod (IntKind.wrap IntKind.i64 n)
  (13 : Int))))))), Prod.snd (Prod.fst (putM k f bit (Prod.fst (shape19 side l (IntKind.wrap IntKind.i64 ((12 : Int) + Int.tmod (IntKind.wrap IntKind.i64 n) (13 : Int)))), Prod.snd (shape19 side l (IntKind.wrap IntKind.i64
  ((12 : Int) + Int.tmod (IntKind.wrap IntKind.i64 n) (13 : Int)))))))))), Prod.snd (Prod.fst (putM k f (!bit) (Prod.fst (Prod.fst (putM k f bit (Prod.fst (shape19 side l (IntKind.wrap IntKind.i64 ((12 : Int) + Int.tmod
  (IntKind.wrap IntKind.i64 n) (13 : Int)))), Prod.snd (shape19 side l (IntKind.wrap IntKind.i64 ((12 : Int) + Int.tmod (IntKind.wrap IntKind.i64 n) (13 : Int))))))), Prod.snd (Prod.fst (putM k f bit (Prod.fst (shape19 side l
  (IntKind.wrap IntKind.i64 ((12 : Int) + Int.tmod (IntKind.wrap IntKind.i64 n) (13 : Int)))), Prod.snd (shape19 side l (IntKind.wrap IntKind.i64 ((12 : Int) + Int.tmod (IntKind.wrap IntKind.i64 n) (13 : Int)))))))))))) else
  false) = b_1 → ((false = true → false = true) ∧ (b = true → b = true) ∧ (b = true → b = true) ∧ (b_1 = true → b_1 = true) ∧ (b_1 = true → b_1 = true)) ∧ (bif b_1 then decide (corrF k f (Prod.fst (Prod.fst (putM k f (!bit)
  (Prod.fst (Prod.fst (putM k f bit (Prod.fst (shape19 side l (IntKind.wrap IntKind.i64 ((12 : Int) + Int.tmod (IntKind.wrap IntKind.i64 n) (13 : Int)))), Prod.snd (shape19 side l (IntKind.wrap IntKind.i64 ((12 : Int) +
  Int.tmod (IntKind.wrap IntKind.i64 n) (13 : Int))))))), Prod.snd (Prod.fst (putM k f bit (Prod.fst (shape19 side l (IntKind.wrap IntKind.i64 ((12 : Int) + Int.tmod (IntKind.wrap IntKind.i64 n) (13 : Int)))), Prod.snd
  (shape19 side l (IntKind.wrap IntKind.i64 ((12 : Int) + Int.tmod (IntKind.wrap IntKind.i64 n) (13 : Int)))))))))), Prod.snd (Prod.fst (putM k f (!bit) (Prod.fst (Prod.fst (putM k f bit (Prod.fst (shape19 side l
  (IntKind.wrap IntKind.i64 ((12 : Int) + Int.tmod (IntKind.wrap IntKind.i64 n) (13 : Int)))), Prod.snd (shape19 side l (IntKind.wrap IntKind.i64 ((12 : Int) + Int.tmod (IntKind.wrap IntKind.i64 n) (13 : Int))))))), Prod.snd
  (Prod.fst (putM k f bit (Prod.fst (shape19 side l (IntKind.wrap IntKind.i64 ((12 : Int) + Int.tmod (IntKind.wrap IntKind.i64 n) (13 : Int)))), Prod.snd (shape19 side l (IntKind.wrap IntKind.i64 ((12 : Int) + Int.tmod
  (IntKind.wrap IntKind.i64 n) (13 : Int))))))))))) ≤ (12 : Int)) else false) = true else bif decide (spkF (corrF k f (Prod.fst (Prod.fst (putM k f bit (Prod.fst (shape19 side l (IntKind.wrap IntKind.i64 ((12 : Int) +
  Int.tmod (IntKind.wrap IntKind.i64 n) (13 : Int)))), Prod.snd (shape19 side l (IntKind.wrap IntKind.i64 ((12 : Int) + Int.tmod (IntKind.wrap IntKind.i64 n) (13 : Int))))))), Prod.snd (Prod.fst (putM k f bit (Prod.fst
  (shape19 side l (IntKind.wrap IntKind.i64 ((12 : Int) + Int.tmod (IntKind.wrap IntKind.i64 n) (13 : Int)))), Prod.snd (shape19 side l (IntKind.wrap IntKind.i64 ((12 : Int) + Int.tmod (IntKind.wrap IntKind.i64 n) (13 :
  Int))))))))) = IntKind.wrap IntKind.i64 ((0 : Int) - (-1 : Int))) == Prod.snd (putM k f bit (Prod.fst (shape19 side l (IntKind.wrap IntKind.i64 ((12 : Int) + Int.tmod (IntKind.wrap IntKind.i64 n) (13 : Int)))), Prod.snd
  (shape19 side l (IntKind.wrap IntKind.i64 ((12 : Int) + Int.tmod (IntKind.wrap IntKind.i64 n) (13 : Int)))))) then ∀ (b : Bool), (decide (spkF (corrF k f (Prod.fst (Prod.fst (putM k f (!bit) (Prod.fst (Prod.fst (putM k f
  bit (Prod.fst (shape19 side l (IntKind.wrap IntKind.i64 ((12 : Int) + Int.tmod (IntKind.wrap IntKind.i64 n) (13 : Int)))), Prod.snd (shape19 side l (IntKind.wrap IntKind.i64 ((12 : Int) + Int.tmod (IntKind.wrap IntKind.i64
  n) (13 : Int))))))), Prod.snd (Prod.fst (putM k f bit (Prod.fst (shape19 side l (IntKind.wrap IntKind.i64 ((12 : Int) + Int.tmod (IntKind.wrap IntKind.i64 n) (13 : Int)))), Prod.snd (shape19 side l (IntKind.wrap IntKind.i64
  ((12 : Int) + Int.tmod (IntKind.wrap IntKind.i64 n) (13 : Int)))))))))), Prod.snd (Prod.fst (putM k f (!bit) (Prod.fst (Prod.fst (putM k f bit (Prod.fst (shape19 side l (IntKind.wrap IntKind.i64 ((12 : Int) + Int.tmod
  (IntKind.wrap IntKind.i64 n) (13 : Int)))), Prod.snd (shape19 side l (IntKind.wrap IntKind.i64 ((12 : Int) + Int.tmod (IntKind.wrap IntKind.i64 n) (13 : Int))))))), Prod.snd (Prod.fst (putM k f bit (Prod.fst (shape19 side l
  (IntKind.wrap IntKind.i64 ((12 : Int) + Int.tmod (IntKind.wrap IntKind.i64 n) (13 : Int)))), Prod.snd (shape19 side l (IntKind.wrap IntKind.i64 ((12 : Int) + Int.tmod (IntKind.wrap IntKind.i64 n) (13 : Int)))))))))))) =
  (-1 : Int)) == Prod.snd (putM k f (!bit) (Prod.fst (Prod.fst (putM k f bit (Prod.fst (shape19 side l (IntKind.wrap IntKind.i64 ((12 : Int) + Int.tmod (IntKind.wrap IntKind.i64 n) (13 : Int)))), Prod.snd (shape19 side l
  (IntKind.wrap IntKind.i64 ((12 : Int) + Int.tmod (IntKind.wrap IntKind.i64 n) (13 : Int))))))), Prod.snd (Prod.fst (putM k f bit (Prod.fst (shape19 side l (IntKind.wrap IntKind.i64 ((12 : Int) + Int.tmod (IntKind.wrap
  IntKind.i64 n) (13 : Int)))), Prod.snd (shape19 side l (IntKind.wrap IntKind.i64 ((12 : Int) + Int.tmod (IntKind.wrap IntKind.i64 n) (13 : Int)))))))))) = b → ∀ (b_1 : Bool), (bif b then decide ((-12 : Int) ≤ corrF k f
  (Prod.fst (Prod.fst (putM k f (!bit) (Prod.fst (Prod.fst (putM k f bit (Prod.fst (shape19 side l (IntKind.wrap IntKind.i64 ((12 : Int) + Int.tmod (IntKind.wrap IntKind.i64 n) (13 : Int)))), Prod.snd (shape19 side l
  (IntKind.wrap IntKind.i64 ((12 : Int) + Int.tmod (IntKind.wrap IntKind.i64 n) (13 : Int))))))), Prod.snd (Prod.fst (putM k f bit (Prod.fst (shape19 side l (IntKind.wrap IntKind.i64 ((12 : Int) + Int.tmod (IntKind.wrap
  IntKind.i64 n) (13 : Int)))), Prod.snd (shape19 side l (IntKind.wrap IntKind.i64 ((12 : Int) + Int.tmod (IntKind.wrap IntKind.i64 n) (13 : Int)))))))))), Prod.snd (Prod.fst (putM k f (!bit) (Prod.fst (Prod.fst (putM k f
  bit (Prod.fst (shape19 side l (IntKind.wrap IntKind.i64 ((12 : Int) + Int.tmod (IntKind.wrap IntKind.i64 n) (13 : Int)))), Prod.snd (shape19 side l (IntKind.wrap IntKind.i64 ((12 : Int) + Int.tmod (IntKind.wrap IntKind.i64
  n) (13 : Int))))))), Prod.snd (Prod.fst (putM k f bit (Prod.fst (shape19 side l (IntKind.wrap IntKind.i64 ((12 : Int) + Int.tmod (IntKind.wrap IntKind.i64 n) (13 : Int)))), Prod.snd (shape19 side l (IntKind.wrap IntKind.i64
  ((12 : Int) + Int.tmod (IntKind.wrap IntKind.i64 n) (13 : Int)))))))))))) else false) = b_1 → ((b = true → b = true) ∧ (b = true → b = true) ∧ (b_1 = true → b_1 = true) ∧ (b_1 = true → b_1 = true)) ∧ (bif b_1 then decide
  (corrF k f (Prod.fst (Prod.fst (putM k f (!bit) (Prod.fst (Prod.fst (putM k f bit (Prod.fst (shape19 side l (IntKind.wrap IntKind.i64 ((12 : Int) + Int.tmod (IntKind.wrap IntKind.i64 n) (13 : Int)))), Prod.snd (shape19 side
  l (IntKind.wrap IntKind.i64 ((12 : Int) + Int.tmod (IntKind.wrap IntKind.i64 n) (13 : Int))))))), Prod.snd (Prod.fst (putM k f bit (Prod.fst (shape19 side l (IntKind.wrap IntKind.i64 ((12 : Int) + Int.tmod (IntKind.wrap
  IntKind.i64 n) (13 : Int)))), Prod.snd (shape19 side l (IntKind.wrap IntKind.i64 ((12 : Int) + Int.tmod (IntKind.wrap IntKind.i64 n) (13 : Int)))))))))), Prod.snd (Prod.fst (putM k f (!bit) (Prod.fst (Prod.fst (putM k f
  bit (Prod.fst (shape19 side l (IntKind.wrap IntKind.i64 ((12 : Int) + Int.tmod (IntKind.wrap IntKind.i64 n) (13 : Int)))), Prod.snd (shape19 side l (IntKind.wrap IntKind.i64 ((12 : Int) + Int.tmod (IntKind.wrap IntKind.i64
  n) (13 : Int))))))), Prod.snd (Prod.fst (putM k f bit (Prod.fst (shape19 side l (IntKind.wrap IntKind.i64 ((12 : Int) + Int.tmod (IntKind.wrap IntKind.i64 n) (13 : Int)))), Prod.snd (shape19 side l (IntKind.wrap IntKind.i64
  ((12 : Int) + Int.tmod (IntKind.wrap IntKind.i64 n) (13 : Int))))))))))) ≤ (12 : Int)) else false) = true else ∀ (b : Bool), false = b → ∀ (b_1 : Bool), (bif b then decide ((-12 : Int) ≤ corrF k f (Prod.fst (Prod.fst
  (putM k f (!bit) (Prod.fst (Prod.fst (putM k f bit (Prod.fst (shape19 side l (IntKind.wrap IntKind.i64 ((12 : Int) + Int.tmod (IntKind.wrap IntKind.i64 n) (13 : Int)))), Prod.snd (shape19 side l (IntKind.wrap IntKind.i64
  ((12 : Int) + Int.tmod (IntKind.wrap IntKind.i64 n) (13 : Int))))))), Prod.snd (Prod.fst (putM k f bit (Prod.fst (shape19 side l (IntKind.wrap IntKind.i64 ((12 : Int) + Int.tmod (IntKind.wrap IntKind.i64 n) (13 : Int)))),
  Prod.snd (shape19 side l (IntKind.wrap IntKind.i64 ((12 : Int) + Int.tmod (IntKind.wrap IntKind.i64 n) (13 : Int)))))))))), Prod.snd (Prod.fst (putM k f (!bit) (Prod.fst (Prod.fst (putM k f bit (Prod.fst (shape19 side l
  (IntKind.wrap IntKind.i64 ((12 : Int) + Int.tmod (IntKind.wrap IntKind.i64 n) (13 : Int)))), Prod.snd (shape19 side l (IntKind.wrap IntKind.i64 ((12 : Int) + Int.tmod (IntKind.wrap IntKind.i64 n) (13 : Int))))))), Prod.snd
  (Prod.fst (putM k f bit (Prod.fst (shape19 side l (IntKind.wrap IntKind.i64 ((12 : Int) + Int.tmod (IntKind.wrap IntKind.i64 n) (13 : Int)))), Prod.snd (shape19 side l (IntKind.wrap IntKind.i64 ((12 : Int) + Int.tmod
  (IntKind.wrap IntKind.i64 n) (13 : Int)))))))))))) else false) = b_1 → ((false = true → false = true) ∧ (b = true → b = true) ∧ (b = true → b = true) ∧ (b_1 = true → b_1 = true) ∧ (b_1 = true → b_1 = true)) ∧ (bif b_1
  then decide (corrF k f (Prod.fst (Prod.fst (putM k f (!bit) (Prod.fst (Prod.fst (putM k f bit (Prod.fst (shape19 side l (IntKind.wrap IntKind.i64 ((12 : Int) + Int.tmod (IntKind.wrap IntKind.i64 n) (13 : Int)))), Prod.snd
  (shape19 side l (IntKind.wrap IntKind.i64 ((12 : Int) + Int.tmod (IntKind.wrap IntKind.i64 n) (13 : Int))))))), Prod.snd (Prod.fst (putM k f bit (Prod.fst (shape19 side l (IntKind.wrap IntKind.i64 ((12 : Int) + Int.tmod
  (IntKind.wrap IntKind.i64 n) (13 : Int)))), Prod.snd (shape19 side l (IntKind.wrap IntKind.i64 ((12 : Int) + Int.tmod (IntKind.wrap IntKind.i64 n) (13 : Int)))))))))), Prod.snd (Prod.fst (putM k f (!bit) (Prod.fst
  (Prod.fst (putM k f bit (Prod.fst (shape19 side l (IntKind.wrap IntKind.i64 ((12 : Int) + Int.tmod (IntKind.wrap IntKind.i64 n) (13 : Int)))), Prod.snd (shape19 side l (IntKind.wrap IntKind.i64 ((12 : Int) + Int.tmod
  (IntKind.wrap IntKind.i64 n) (13 : Int))))))), Prod.snd (Prod.fst (putM k f bit (Prod.fst (shape19 side l (IntKind.wrap IntKind.i64 ((12 : Int) + Int.tmod (IntKind.wrap IntKind.i64 n) (13 : Int)))), Prod.snd (shape19 side l
  (IntKind.wrap IntKind.i64 ((12 : Int) + Int.tmod (IntKind.wrap IntKind.i64 n) (13 : Int))))))))))) ≤ (12 : Int)) else false) = true
theorem vcd6 (k : List Int) (f : Int) (bit : Bool) (side l : List Int) (n : Int) : Pd6 k f bit side l n = vcFun Cd6 (annd6 k f bit side l n) Go.Proofs.Tryd.f6 [⟨.arr 16 (.int .u8), k⟩, ⟨.int .i64, f⟩, ⟨.bool, bit⟩, ⟨.arr 8 (.int .i64), side⟩, ⟨.arr 8 (.int .u32), l⟩, ⟨.int .u8, n⟩] [] (outd6 k f bit side l n) := by kernel_rfl

end Go.SL.A

/- MarkOpposed: plain. -/
namespace Go.SL.A
open Go Go.SL Go.SL.S
set_option maxRecDepth 100000

theorem beq_of_iff {p : Prop} [Decidable p] {b : Bool} (h : b = true ↔ p) : (decide p == b) = true := by
  cases b with
  | true => rw [decide_eq_true (h.1 rfl)]; rfl
  | false => rw [decide_eq_false (fun hp => by have := h.2 hp; cases this)]; rfl
theorem pured6 (k : List Int) (f : Int) (bit : Bool) (side l : List Int) (n : Int) (hw : side.length = 8 ∧ (∀ x ∈ l, 0 ≤ x ∧ x ≤ 4294967295) ∧ 0 ≤ n ∧ n ≤ 255) : Pd6 k f bit side l n := by
  obtain ⟨hs, hx, hn⟩ := hw
  unfold Pd6
  obtain ⟨e1, e2⟩ := size_fit hn
  rw [e1]
  have h := shape_rt (n := 12 + Int.tmod n 13) hs hx e2
  refine ⟨⟨by decide, e2.1, e2.2⟩, ?_⟩
  simp only [pair_eta]
  generalize shape19 side l (12 + Int.tmod n 13) = s at *
  obtain ⟨y', W, R⟩ := h.put (k := k) (f := f) (bit := bit)
  obtain ⟨y2, W2, R2⟩ := R.put (k := k) (f := f) (bit := !bit)
  have s1 := W.spk
  have s2 := W2.spk
  have hcf := corr_fit (k := k) (f := f) R2
  generalize (putM k f (!bit) (putM k f bit s).1) = U at *
  generalize (putM k f bit s) = T at *
  have w1 : IntKind.i64.wrap (0 - 1) = -1 := by decide
  have w2 : IntKind.i64.wrap (0 - -1) = 1 := by decide
  rw [w1, w2]
  cases bit with
  | true =>
    rw [cond_true, beq_of_iff (p := spkF (corrF k f T.1) = -1) s1, cond_true]
    rintro b0 h0 b1 h1
    rw [beq_of_iff (p := spkF (corrF k f U.1) = 1) s2] at h0
    subst h0
    rw [cond_true, decide_eq_true hcf.1] at h1
    subst h1
    refine ⟨by simp, ?_⟩
    rw [cond_true]; exact decide_eq_true hcf.2
  | false =>
    rw [cond_false, beq_of_iff (p := spkF (corrF k f T.1) = 1) s1, cond_true]
    rintro b0 h0 b1 h1
    rw [beq_of_iff (p := spkF (corrF k f U.1) = -1) s2] at h0
    subst h0
    rw [cond_true, decide_eq_true hcf.1] at h1
    subst h1
    refine ⟨by simp, ?_⟩
    rw [cond_true]; exact decide_eq_true hcf.2
end Go.SL.A

/- Functions do what they are held to do. -/
namespace Go.SL.A
open Go Go.SL Go.SL.S
theorem sndd6 : Sound Go.Proofs.Tryd.prog Gd6 := sndd14.add ⟨_, Go.Proofs.Tryd.func6, by kernel_rfl, by kernel_rfl⟩ (by
  intro args ins out h hp
  unfold spd6 at h
  split at h
  · rename_i k f bit side l n
    cases h
    exact vcFun_ok (C := Cd6) good sndd14 Meth.none mix Go.Proofs.Tryd.func6 (annd6 k f bit side l n) (fun hw => by rw [← vcd6 k f bit side l n]; exact pured6 k f bit side l n (hwd5 hw))
  · cases h)

end Go.SL.A

/- MarkOpposed: the law returns true, whatever its arguments; each argument reads afterwards as before. No condition. -/
namespace Go.Proofs.YthhfccnhkadkcaaDoor
open Go Go.SL Go.SL.S Go.ChangeShapes Go.WideShapes Go.ChangeAt Go.WideMaps Go.WideElems Go.RowKit
set_option maxRecDepth 100000

theorem parsT : ((Go.Proofs.Tryd.f6.params.toList).all fun t => Nat.blt t Go.Proofs.Tryd.prog.types.size) = true := by kernel_rfl
theorem parsL : Go.Proofs.Tryd.f6.params.toList = [23, 3, 4, 24, 43, 5] := by kernel_rfl
theorem law_pure : ∀ avs bls, argsOk Go.SL.A.D Go.Proofs.Tryd.f6.params.toList 0 avs bls → VCall Go.Proofs.Tryd.prog 6 avs bls ⟨[], .v .bool true, [], []⟩ := by
  rw [parsL]
  intro avs bls h
  replace h : ∃ (t : Ty) (x : t.I) (avs' : List AV), Go.SL.A.D.ty 23 = some t ∧ avs = ⟨t, x⟩ :: avs' ∧ argsOk Go.SL.A.D [3, 4, 24, 43, 5] 0 avs' bls := h
  obtain ⟨t, x0, avs, ht, rfl, h⟩ := h
  obtain rfl : .arr 16 (.int .u8) = t := Option.some.inj ((show (some (.arr 16 (.int .u8)) : Option Ty) = Go.SL.A.D.ty 23 by kernel_rfl).trans ht)
  replace h : ∃ (t : Ty) (x : t.I) (avs' : List AV), Go.SL.A.D.ty 3 = some t ∧ avs = ⟨t, x⟩ :: avs' ∧ argsOk Go.SL.A.D [4, 24, 43, 5] 0 avs' bls := h
  obtain ⟨t, x1, avs, ht, rfl, h⟩ := h
  obtain rfl : .int .i64 = t := Option.some.inj ((show (some (.int .i64) : Option Ty) = Go.SL.A.D.ty 3 by kernel_rfl).trans ht)
  replace h : ∃ (t : Ty) (x : t.I) (avs' : List AV), Go.SL.A.D.ty 4 = some t ∧ avs = ⟨t, x⟩ :: avs' ∧ argsOk Go.SL.A.D [24, 43, 5] 0 avs' bls := h
  obtain ⟨t, x2, avs, ht, rfl, h⟩ := h
  obtain rfl : .bool = t := Option.some.inj ((show (some (.bool) : Option Ty) = Go.SL.A.D.ty 4 by kernel_rfl).trans ht)
  replace h : ∃ (t : Ty) (x : t.I) (avs' : List AV), Go.SL.A.D.ty 24 = some t ∧ avs = ⟨t, x⟩ :: avs' ∧ argsOk Go.SL.A.D [43, 5] 0 avs' bls := h
  obtain ⟨t, x3, avs, ht, rfl, h⟩ := h
  obtain rfl : .arr 8 (.int .i64) = t := Option.some.inj ((show (some (.arr 8 (.int .i64)) : Option Ty) = Go.SL.A.D.ty 24 by kernel_rfl).trans ht)
  replace h : ∃ (t : Ty) (x : t.I) (avs' : List AV), Go.SL.A.D.ty 43 = some t ∧ avs = ⟨t, x⟩ :: avs' ∧ argsOk Go.SL.A.D [5] 0 avs' bls := h
  obtain ⟨t, x4, avs, ht, rfl, h⟩ := h
  obtain rfl : .arr 8 (.int .u32) = t := Option.some.inj ((show (some (.arr 8 (.int .u32)) : Option Ty) = Go.SL.A.D.ty 43 by kernel_rfl).trans ht)
  replace h : ∃ (t : Ty) (x : t.I) (avs' : List AV), Go.SL.A.D.ty 5 = some t ∧ avs = ⟨t, x⟩ :: avs' ∧ argsOk Go.SL.A.D [] 0 avs' bls := h
  obtain ⟨t, x5, avs, ht, rfl, h⟩ := h
  obtain rfl : .int .u8 = t := Option.some.inj ((show (some (.int .u8) : Option Ty) = Go.SL.A.D.ty 5 by kernel_rfl).trans ht)
  obtain ⟨rfl, rfl⟩ : avs = [] ∧ bls = [] := h
  have q := (Go.SL.A.sndd6 6 Go.SL.A.spd6 rfl).2 [⟨.arr 16 (.int .u8), x0⟩, ⟨.int .i64, x1⟩, ⟨.bool, x2⟩, ⟨.arr 8 (.int .i64), x3⟩, ⟨.arr 8 (.int .u32), x4⟩, ⟨.int .u8, x5⟩] [] _ rfl (trivial)
  exact q

abbrev laidL : List (String × DataW Unit) := [("belfry/sip.signs", Rows.laid_belfry_sip_signs)]
theorem lifted (os : Os) (started : os.Started) (H : Type) (enc : TypeId × Value → H) :
    ReturnsInHanded {} Go.Proofs.Tryd.checked os 6 .any (fun w args => (Rows.markOpposedSpec.pre enc Go.Proofs.Tryd.prog Go.Proofs.Tryd.f6 [] false w args ∧ laidMetH Go.Proofs.Tryd.prog laidL w) ∧ sizedMet enc Go.Proofs.Tryd.prog Go.Proofs.Tryd.f6 (OpenSpec.ofChange Rows.markOpposedSpec) false w args) (Rows.markOpposedSpec.post enc Go.Proofs.Tryd.prog Go.Proofs.Tryd.f6 false true false false) := by
  refine returnsInHanded_of_change_and (C := Go.Proofs.Tryd.checked) (X := fun w _ => laidMetH Go.Proofs.Tryd.prog laidL w) (fun _ _ _ hh h => h.of_heap hh) Seat.own started (by kernel_rfl) Go.Proofs.Tryd.func6
    (ChangeSpec.witness_at (enc := enc) (C := Go.Proofs.Tryd.checked) (os := os) (X := fun w _ => laidMetH Go.Proofs.Tryd.prog laidL w) false (Seat.laidWorld os) #[.agg (Array.replicate 16 (.int .u8 0)), .int .i64 0, .bool false, .agg (Array.replicate 8 (.int .i64 0)), .agg (Array.replicate 8 (.int .u32 0)), .int .u8 0] 8 rfl (by kernel_rfl) (by kernel_rfl) (by kernel_rfl) (by kernel_rfl) (by kernel_rfl) (Seat.laidWorld_met os _)) ?_
  intro W base args ds gs before hval hW _ _ hL _
  refine law_calls (D := Go.SL.A.D) Go.SL.A.good Seat.kids Seat.slicesFull (fun t ht => Nat.le_of_ble_eq_true (List.all_eq_true.1 parsT t ht)) (by kernel_rfl) (show Go.Proofs.Tryd.f6.resultTypes = #[4] by kernel_rfl) Go.Proofs.Tryd.underlying4 rfl (fun ds h => ?_) law_pure (fun g a hg => Seat.signs_gl hL g a hg) hval hW
  have h : ds.length = 6 := h
  match ds, h with
  | [_, _, _, _, _, _], _ => rfl

theorem joined : joinedFacts Go.Proofs.Tryd.prog 6 Go.Proofs.Tryd.f6 Rows.markOpposedSpec Rows.markOpposedRow = true := by
  unfold joinedFacts
  exact (andT (andT (andT (andT (andT (andT (andT (andT (andT (andT (andT (andT (andT (andT (andT (andT (andT (andT (andT (andT (andT (andT (andT (andT (andT (andT (andT (andT (andT (andT (andT (by as_aux_lemma => kernel_rfl) Seat.laidOut) Seat.mapsRowed) (by as_aux_lemma => kernel_rfl)) (by as_aux_lemma => kernel_rfl)) (by as_aux_lemma => kernel_rfl)) Seat.stops) (by as_aux_lemma => kernel_rfl)) Seat.knobs) (by as_aux_lemma => kernel_rfl)) (by as_aux_lemma => kernel_rfl)) (by as_aux_lemma => kernel_rfl)) (by as_aux_lemma => kernel_rfl)) (by as_aux_lemma => kernel_rfl)) (by as_aux_lemma => kernel_rfl)) (by as_aux_lemma => kernel_rfl)) (by as_aux_lemma => kernel_rfl)) (by as_aux_lemma => kernel_rfl)) (by as_aux_lemma => kernel_rfl)) (by as_aux_lemma => kernel_rfl)) (by as_aux_lemma => kernel_rfl)) (by as_aux_lemma => kernel_rfl)) (by as_aux_lemma => kernel_rfl)) (by as_aux_lemma => kernel_rfl)) Seat.heard) Seat.mayEnter) (by rw [Seat.lifts]; rfl)) (by rw [Seat.made]; rfl)) (by as_aux_lemma => kernel_rfl)) (by as_aux_lemma => kernel_rfl)) (by as_aux_lemma => kernel_rfl)) (by as_aux_lemma => kernel_rfl))

theorem markOpposed_holds : Rows.MarkOpposedSaid :=
  OpenClaim.holds_of_wide 6 Go.Proofs.Tryd.f6 rfl rfl rfl rfl rfl rfl rfl ⟨rfl, rfl, rfl, rfl, rfl⟩ rfl rfl rfl rfl rfl (by kernel_rfl) Go.Proofs.Tryd.func6 joined
    (of_decide_eq_true (by kernel_rfl)) (by unfold Func.isWrapper; first | (rw [if_pos (by decide +kernel)]; kernel_rfl) | (rw [if_neg (by decide +kernel)]; exact ⟨rfl, rfl⟩))
    (fun os started H enc _ => lifted os started H enc)

theorem noStand : ((Go.Proofs.Tryd.f6.params.toList).all fun t => !Go.Proofs.Tryd.prog.wantsStandIn t) = true := by kernel_rfl
theorem markOpposedCard_holds : Rows.MarkOpposedCardSaid :=
  Claim7.holds_tied_plain_at .later [] [.data] true (true, "c88e0687c222961115da2a84d0fc17cee095a0dd0289832c0327b0b27169c1bb") true
    markOpposed_holds (fun _ h => by cases h) (by kernel_rfl) (fun _ h => by cases h) markOpposed_row_tie rfl ⟨rfl, rfl⟩ (by kernel_rfl) rfl
    (fun f fn hf hfn => by
      obtain rfl : f = 6 := Option.some.inj (hf.symm.trans (by kernel_rfl))
      obtain rfl : fn = Go.Proofs.Tryd.f6 := Option.some.inj (hfn.symm.trans Go.Proofs.Tryd.func6)
      refine ⟨by kernel_rfl, fun j t ht => ?_⟩
      have hm := List.all_eq_true.1 noStand t (List.mem_of_getElem? (by rw [Array.getElem?_toList]; exact ht))
      exact (show Go.Proofs.Tryd.prog.wantsStandIn t = false by simpa using hm))
    (by kernel_rfl)

#print axioms markOpposedCard_holds
end Go.Proofs.YthhfccnhkadkcaaDoor
