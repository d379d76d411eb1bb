/- AmendLocates returns true, whatever its arguments, which read afterwards as before: no condition. -/
import Derived.Test.YthhfccnhkadkcaaRows
import Derived.Test.YthhfccnhkadkcaaAmend
import Derived.Test.YthhfccnhkadkcaaKb
import Derived.Test.YthhfccnhkadkcaaT

/- Functions and what they are held to do: bound to their code. -/
namespace Go.SL.A
open Go Go.SL Go.SL.S
set_option maxRecDepth 100000
noncomputable def C25 : Ctx := ⟨Go.Proofs.Try.prog, D, G67, (fun _ _ => none), fun _ => []⟩
def ann25 (_n _m : Nat) (a s : List Int) : Nat → St → Option Ann := fun id _ => match id with | 0 => some ⟨Nat, [1, 5], [0, 1, 2], fun i => [(7, .v (.int .i64) (i : Int)), (6, .v (.int .i64) (cn i (bw (holesF a)) : Int))], fun _ => [], fun i => i ≤ 127, fun i => 127 - i⟩ | 2 => some ⟨Nat, [1, 5, 6, 8], [0, 1, 2, 4], fun i => [(10, .v (.int .i64) (i : Int))], fun _ => [], fun i => i ≤ 127, fun i => 127 - i⟩ | 4 => some ⟨Nat, [1, 11, 13], [0, 1, 5], fun i => [(14, .v (.int .i64) (i : Int))], fun i => [(6, some ⟨false, true, .arr 127 .bool, [markF ((locF s).take i)]⟩)], fun i => i ≤ (locF s).length, fun i => (locF s).length - i⟩ | _ => some ⟨Nat, [1, 11, 15], [0, 1, 5, 7], fun i => [(16, .v (.int .i64) (i : Int))], fun _ => [], fun i => i ≤ 20, fun i => 20 - i⟩
def out25 (n m : Nat) (a s : List Int) : COut := ⟨[n = a.length ∧ m = s.length], .v .bool true, [], []⟩
def sp25 : Spec := fun args ins => match args, ins with
  | [⟨.ref .slice, .slice 0 (.int .u8) [] 0 n⟩, ⟨.ref .slice, .slice 1 (.int .i64) [] 0 m⟩], [⟨true, false, .int .u8, a⟩, ⟨true, false, .int .i64, s⟩] => some (out25 n m a s)
  | _, _ => none
def G25 := addG G67 25 sp25
def P25 (n m : Nat) (a s : List Int) : Prop :=
  ∀ (b : Bool), false = b → ∀ (b_1 : Bool), (bif b then true else decide ((40 : Int) < (↑n : Int))) = b_1 → (((!b) = true → (!b) = true) ∧ ((!b) = true → (!b) = true) ∧ (b = false → (!b) = true) ∧ ((!b_1) = true → (!b_1) =
  true) ∧ ((!b_1) = true → (!b_1) = true) ∧ (b_1 = false → (!b_1) = true)) ∧ bif bif b_1 then true else decide ((60 : Int) < (↑m : Int)) then true = true ∧ a = a ∧ true = true ∧ s = s ∧ true = true else (n = List.length a ∧
  n ≤ (1000000 : Nat)) ∧ ∃ (x : Nat), (((0 : Nat) = (0 : Nat) ∧ m = m ∧ (0 : Nat) = (0 : Nat) ∧ (0 : Int) = (↑(cn x (bw (holesF a))) : Int) ∧ (0 : Int) = (↑x : Int) ∧ a = a ∧ true = true ∧ s = s ∧ true = true ∧ holesF a =
  holesF a ∧ false = false) ∧ x ≤ (127 : Nat)) ∧ ∀ (x : Nat), x ≤ (127 : Nat) → IntKind.min IntKind.i64 ≤ (↑x : Int) ∧ (↑x : Int) ≤ IntKind.max IntKind.i64 ∧ IntKind.min IntKind.i64 ≤ (↑(cn x (bw (holesF a))) : Int) ∧ (↑(cn
  x (bw (holesF a))) : Int) ≤ IntKind.max IntKind.i64 → bif decide ((↑x : Int) < (127 : Int)) then (((0 : Int) ≤ (↑x : Int) ∧ (↑x : Int) < (↑(127 : Nat) : Int)) ∧ Int.toNat (↑x : Int) < (127 : Nat)) ∧ bif List.getD (holesF
  a) (Int.toNat (↑x : Int)) false then ∃ (y : Nat), ((0 : Nat) = (0 : Nat) ∧ m = m ∧ (0 : Nat) = (0 : Nat) ∧ IntKind.wrap IntKind.i64 ((↑(cn x (bw (holesF a))) : Int) + (1 : Int)) = (↑(cn y (bw (holesF a))) : Int) ∧
  IntKind.wrap IntKind.i64 ((↑x : Int) + (1 : Int)) = (↑y : Int) ∧ a = a ∧ true = true ∧ s = s ∧ true = true ∧ holesF a = holesF a ∧ false = false) ∧ y ≤ (127 : Nat) ∧ (127 : Nat) - y < (127 : Nat) - x else ∃ (y : Nat), ((0
  : Nat) = (0 : Nat) ∧ m = m ∧ (0 : Nat) = (0 : Nat) ∧ (↑(cn x (bw (holesF a))) : Int) = (↑(cn y (bw (holesF a))) : Int) ∧ IntKind.wrap IntKind.i64 ((↑x : Int) + (1 : Int)) = (↑y : Int) ∧ a = a ∧ true = true ∧ s = s ∧ true
  = true ∧ holesF a = holesF a ∧ false = false) ∧ y ≤ (127 : Nat) ∧ (127 : Nat) - y < (127 : Nat) - x else ((20 : Nat) = List.length (synL (holesF a)) ∧ (20 : Nat) ≤ (1000000000 : Nat)) ∧ bif decide ((↑(cn x (bw (holesF
  a))) : Int) ≤ (10 : Int)) then ∀ (b : Bool), (!locB (synL (holesF a))) = b → (((!b) = true → (!b) = true) ∧ ((!b) = true → (!b) = true ∧ (!b) = true) ∧ (b = false → (!b) = true)) ∧ bif bif b then true else !decide
  ((↑(List.length (locF (synL (holesF a)))) : Int) = (↑(cn x (bw (holesF a))) : Int)) then false = true ∧ a = a ∧ true = true ∧ s = s ∧ true = true else ∃ (x_1 : Nat), (((0 : Nat) = (0 : Nat) ∧ m = m ∧ (0 : Nat) = (0 : Nat)
  ∧ (↑(cn x (bw (holesF a))) : Int) = (↑(cn x (bw (holesF a))) : Int) ∧ (0 : Nat) = (0 : Nat) ∧ List.length (locF (synL (holesF a))) = List.length (locF (synL (holesF a))) ∧ (0 : Int) = (↑x_1 : Int) ∧ a = a ∧ true = true ∧
  s = s ∧ true = true ∧ holesF a = holesF a ∧ false = false ∧ locF (synL (holesF a)) = locF (synL (holesF a)) ∧ false = false) ∧ x_1 ≤ (127 : Nat)) ∧ ∀ (x_2 : Nat), x_2 ≤ (127 : Nat) → IntKind.min IntKind.i64 ≤ (↑x_2 : Int)
  ∧ (↑x_2 : Int) ≤ IntKind.max IntKind.i64 → bif decide ((↑x_2 : Int) < (↑(cn x (bw (holesF a))) : Int)) then ∀ (b : Bool), (!List.getD (holesF a) (Int.toNat (List.getD (locF (synL (holesF a))) ((0 : Nat) + Int.toNat (↑x_2
  : Int)) (0 : Int))) false) = b → ∀ (b_2 : Bool), decide ((0 : Int) < (↑x_2 : Int)) = b_2 → (((0 : Int) ≤ (↑x_2 : Int) ∧ (↑x_2 : Int) < (↑(List.length (locF (synL (holesF a)))) : Int)) ∧ (0 : Nat) + Int.toNat (↑x_2 : Int)
  < List.length (locF (synL (holesF a))) ∧ ((0 : Int) ≤ List.getD (locF (synL (holesF a))) ((0 : Nat) + Int.toNat (↑x_2 : Int)) (0 : Int) ∧ List.getD (locF (synL (holesF a))) ((0 : Nat) + Int.toNat (↑x_2 : Int)) (0 : Int) <
  (↑(127 : Nat) : Int)) ∧ Int.toNat (List.getD (locF (synL (holesF a))) ((0 : Nat) + Int.toNat (↑x_2 : Int)) (0 : Int)) < (127 : Nat) ∧ ((!b) = true → (!b) = true) ∧ ((!b && !b && b_2) = true → (!b && !b && b_2) = true ∧
  (!b && !b && b_2) = true ∧ (0 : Int) ≤ (↑x_2 : Int) ∧ (↑x_2 : Int) < (↑(List.length (locF (synL (holesF a)))) : Int)) ∧ ((!b && !b && b_2) = true → (!b && !b && b_2) = true ∧ (0 : Nat) + Int.toNat (↑x_2 : Int) <
  List.length (locF (synL (holesF a)))) ∧ ((!b && !b && b_2) = true → (!b && !b && b_2) = true) ∧ ((!b && !b && b_2) = true → (!b && !b && b_2) = true ∧ (!b && !b && b_2) = true ∧ (0 : Int) ≤ IntKind.wrap IntKind.i64 ((↑x_2
  : Int) - (1 : Int)) ∧ IntKind.wrap IntKind.i64 ((↑x_2 : Int) - (1 : Int)) < (↑(List.length (locF (synL (holesF a)))) : Int)) ∧ ((!b && !b && b_2) = true → (!b && !b && b_2) = true ∧ (0 : Nat) + Int.toNat (IntKind.wrap
  IntKind.i64 ((↑x_2 : Int) - (1 : Int))) < List.length (locF (synL (holesF a)))) ∧ ((!b && !b && b_2) = true → (!b && !b && b_2) = true ∧ (!b && !b && b_2) = true) ∧ ((!b) = true → (!b && !b) = true ∧ (b_2 = true → (!b &&
  !b && b_2) = true)) ∧ (b = false → (!b) = true)) ∧ bif bif b then true else bif b_2 then decide (List.getD (locF (synL (holesF a))) ((0 : Nat) + Int.toNat (↑x_2 : Int)) (0 : Int) ≤ List.getD (locF (synL (holesF a))) ((0 :
  Nat) + Int.toNat (IntKind.wrap IntKind.i64 ((↑x_2 : Int) - (1 : Int)))) (0 : Int)) else false then false = true ∧ a = a ∧ true = true ∧ s = s ∧ true = true else ∃ (y : Nat), ((0 : Nat) = (0 : Nat) ∧ m = m ∧ (0 : Nat) = (0
  : Nat) ∧ (↑(cn x (bw (holesF a))) : Int) = (↑(cn x (bw (holesF a))) : Int) ∧ (0 : Nat) = (0 : Nat) ∧ List.length (locF (synL (holesF a))) = List.length (locF (synL (holesF a))) ∧ IntKind.wrap IntKind.i64 ((↑x_2 : Int) +
  (1 : Int)) = (↑y : Int) ∧ a = a ∧ true = true ∧ s = s ∧ true = true ∧ holesF a = holesF a ∧ false = false ∧ locF (synL (holesF a)) = locF (synL (holesF a)) ∧ false = false) ∧ y ≤ (127 : Nat) ∧ (127 : Nat) - y < (127 :
  Nat) - x_2 else (m = List.length s ∧ m ≤ (1000000000 : Nat)) ∧ bif !locB s then decide ((↑(List.length (locF s)) : Int) = (0 : Int)) = true ∧ a = a ∧ true = true ∧ s = s ∧ true = true else ∃ (x : Nat), (((0 : Nat) = (0 :
  Nat) ∧ m = m ∧ (0 : Nat) = (0 : Nat) ∧ List.length (locF s) = List.length (locF s) ∧ (0 : Nat) = (0 : Nat) ∧ (0 : Int) = (↑x : Int) ∧ a = a ∧ true = true ∧ s = s ∧ true = true ∧ locF s = locF s ∧ false = false ∧ false ::
  List.replicate (nat_lit 126) false = markF (List.take x (locF s)) ∧ false = false) ∧ x ≤ List.length (locF s)) ∧ ∀ (x : Nat), x ≤ List.length (locF s) → (IntKind.min IntKind.i64 ≤ (↑x : Int) ∧ (↑x : Int) ≤ IntKind.max
  IntKind.i64 ∧ ∀ (y : List Bool), List.Mem y [markF (List.take x (locF s))] → List.length y = (127 : Nat) ∧ ∀ (y_1 : Bool), List.Mem y_1 y → True) → bif decide ((↑x : Int) < (↑(List.length (locF s)) : Int)) then ∀ (b :
  Bool), decide (List.getD (locF s) ((0 : Nat) + Int.toNat (↑x : Int)) (0 : Int) < (0 : Int)) = b → ∀ (b_2 : Bool), (bif b then true else decide ((126 : Int) < List.getD (locF s) ((0 : Nat) + Int.toNat (↑x : Int)) (0 :
  Int))) = b_2 → ∀ (b_3 : Bool), decide ((0 : Int) < (↑x : Int)) = b_3 → (((0 : Int) ≤ (↑x : Int) ∧ (↑x : Int) < (↑(List.length (locF s)) : Int)) ∧ (0 : Nat) + Int.toNat (↑x : Int) < List.length (locF s) ∧ ((!b) = true →
  (!b) = true ∧ (!b) = true ∧ (0 : Int) ≤ (↑x : Int) ∧ (↑x : Int) < (↑(List.length (locF s)) : Int)) ∧ ((!b) = true → (!b) = true ∧ (0 : Nat) + Int.toNat (↑x : Int) < List.length (locF s)) ∧ ((!b) = true → (!b) = true) ∧ (b
  = false → (!b) = true) ∧ ((!b_2) = true → (!b_2) = true) ∧ ((!b_2 && !b_2 && b_3) = true → (!b_2 && !b_2 && b_3) = true ∧ (!b_2 && !b_2 && b_3) = true ∧ (0 : Int) ≤ (↑x : Int) ∧ (↑x : Int) < (↑(List.length (locF s)) :
  Int)) ∧ ((!b_2 && !b_2 && b_3) = true → (!b_2 && !b_2 && b_3) = true ∧ (0 : Nat) + Int.toNat (↑x : Int) < List.length (locF s)) ∧ ((!b_2 && !b_2 && b_3) = true → (!b_2 && !b_2 && b_3) = true) ∧ ((!b_2 && !b_2 && b_3) =
  true → (!b_2 && !b_2 && b_3) = true ∧ (!b_2 && !b_2 && b_3) = true ∧ (0 : Int) ≤ IntKind.wrap IntKind.i64 ((↑x : Int) - (1 : Int)) ∧ IntKind.wrap IntKind.i64 ((↑x : Int) - (1 : Int)) < (↑(List.length (locF s)) : Int)) ∧
  ((!b_2 && !b_2 && b_3) = true → (!b_2 && !b_2 && b_3) = true ∧ (0 : Nat) + Int.toNat (IntKind.wrap IntKind.i64 ((↑x : Int) - (1 : Int))) < List.length (locF s)) ∧ ((!b_2 && !b_2 && b_3) = true → (!b_2 && !b_2 && b_3) =
  true ∧ (!b_2 && !b_2 && b_3) = true) ∧ ((!b_2) = true → (!b_2 && !b_2) = true ∧ (b_3 = true → (!b_2 && !b_2 && b_3) = true)) ∧ (b_2 = false → (!b_2) = true)) ∧ bif bif b_2 then true else bif b_3 then decide (List.getD
  (locF s) ((0 : Nat) + Int.toNat (↑x : Int)) (0 : Int) ≤ List.getD (locF s) ((0 : Nat) + Int.toNat (IntKind.wrap IntKind.i64 ((↑x : Int) - (1 : Int)))) (0 : Int)) else false then false = true ∧ a = a ∧ true = true ∧ s = s
  ∧ true = true else (((0 : Int) ≤ (↑x : Int) ∧ (↑x : Int) < (↑(List.length (locF s)) : Int)) ∧ (0 : Nat) + Int.toNat (↑x : Int) < List.length (locF s) ∧ ((0 : Int) ≤ List.getD (locF s) ((0 : Nat) + Int.toNat (↑x : Int)) (0
  : Int) ∧ List.getD (locF s) ((0 : Nat) + Int.toNat (↑x : Int)) (0 : Int) < (↑(127 : Nat) : Int)) ∧ Int.toNat (List.getD (locF s) ((0 : Nat) + Int.toNat (↑x : Int)) (0 : Int)) < (127 : Nat)) ∧ ∃ (y : Nat), ((0 : Nat) = (0
  : Nat) ∧ m = m ∧ (0 : Nat) = (0 : Nat) ∧ List.length (locF s) = List.length (locF s) ∧ (0 : Nat) = (0 : Nat) ∧ IntKind.wrap IntKind.i64 ((↑x : Int) + (1 : Int)) = (↑y : Int) ∧ a = a ∧ true = true ∧ s = s ∧ true = true ∧
  locF s = locF s ∧ false = false ∧ List.set (markF (List.take x (locF s))) (Int.toNat (List.getD (locF s) ((0 : Nat) + Int.toNat (↑x : Int)) (0 : Int))) true = markF (List.take y (locF s)) ∧ false = false) ∧ y ≤
  List.length (locF s) ∧ List.length (locF s) - y < List.length (locF s) - x else ∃ (x_3 : Nat), (((0 : Nat) = (0 : Nat) ∧ m = m ∧ (0 : Nat) = (0 : Nat) ∧ List.length (locF s) = List.length (locF s) ∧ (0 : Nat) = (0 : Nat)
  ∧ (20 : Nat) = (20 : Nat) ∧ (0 : Int) = (↑x_3 : Int) ∧ a = a ∧ true = true ∧ s = s ∧ true = true ∧ locF s = locF s ∧ false = false ∧ synL (markF (List.take x (locF s))) = synL (markF (List.take x (locF s))) ∧ false =
  false) ∧ x_3 ≤ (20 : Nat)) ∧ ∀ (x_4 : Nat), x_4 ≤ (20 : Nat) → IntKind.min IntKind.i64 ≤ (↑x_4 : Int) ∧ (↑x_4 : Int) ≤ IntKind.max IntKind.i64 → bif decide ((↑x_4 : Int) < (↑(20 : Nat) : Int)) then ∀ (b : Bool), (!decide
  ((↑m : Int) = (↑(20 : Nat) : Int))) = b → (((!b) = true → (!b) = true ∧ (!b) = true ∧ (0 : Int) ≤ (↑x_4 : Int) ∧ (↑x_4 : Int) < (↑(20 : Nat) : Int)) ∧ ((!b) = true → (!b) = true ∧ (0 : Nat) + Int.toNat (↑x_4 : Int) <
  List.length (synL (markF (List.take x (locF s))))) ∧ ((!b) = true → (!b) = true ∧ (!b) = true ∧ (0 : Int) ≤ (↑x_4 : Int) ∧ (↑x_4 : Int) < (↑m : Int)) ∧ ((!b) = true → (!b) = true ∧ (0 : Nat) + Int.toNat (↑x_4 : Int) <
  List.length s) ∧ ((!b) = true → (!b) = true ∧ (!b) = true) ∧ (b = false → (!b) = true)) ∧ bif bif b then true else !decide (List.getD (synL (markF (List.take x (locF s)))) ((0 : Nat) + Int.toNat (↑x_4 : Int)) (0 : Int) =
  List.getD s ((0 : Nat) + Int.toNat (↑x_4 : Int)) (0 : Int)) then false = true ∧ a = a ∧ true = true ∧ s = s ∧ true = true else ∃ (y : Nat), ((0 : Nat) = (0 : Nat) ∧ m = m ∧ (0 : Nat) = (0 : Nat) ∧ List.length (locF s) =
  List.length (locF s) ∧ (0 : Nat) = (0 : Nat) ∧ (20 : Nat) = (20 : Nat) ∧ IntKind.wrap IntKind.i64 ((↑x_4 : Int) + (1 : Int)) = (↑y : Int) ∧ a = a ∧ true = true ∧ s = s ∧ true = true ∧ locF s = locF s ∧ false = false ∧
  synL (markF (List.take x (locF s))) = synL (markF (List.take x (locF s))) ∧ false = false) ∧ y ≤ (20 : Nat) ∧ (20 : Nat) - y < (20 : Nat) - x_4 else decide ((↑(List.length (locF s)) : Int) ≤ (10 : Int)) = true ∧ a = a ∧
  true = true ∧ s = s ∧ true = true else (m = List.length s ∧ m ≤ (1000000000 : Nat)) ∧ bif !locB s then decide ((↑(List.length (locF s)) : Int) = (0 : Int)) = true ∧ a = a ∧ true = true ∧ s = s ∧ true = true else ∃ (x :
  Nat), (((0 : Nat) = (0 : Nat) ∧ m = m ∧ (0 : Nat) = (0 : Nat) ∧ List.length (locF s) = List.length (locF s) ∧ (0 : Nat) = (0 : Nat) ∧ (0 : Int) = (↑x : Int) ∧ a = a ∧ true = true ∧ s = s ∧ true = true ∧ locF s = locF s ∧
  false = false ∧ false :: List.replicate (nat_lit 126) false = markF (List.take x (locF s)) ∧ false = false) ∧ x ≤ List.length (locF s)) ∧ ∀ (x : Nat), x ≤ List.length (locF s) → (IntKind.min IntKind.i64 ≤ (↑x : Int) ∧ (↑x
  : Int) ≤ IntKind.max IntKind.i64 ∧ ∀ (y : List Bool), List.Mem y [markF (List.take x (locF s))] → List.length y = (127 : Nat) ∧ ∀ (y_1 : Bool), List.Mem y_1 y → True) → bif decide ((↑x : Int) < (↑(List.length (locF s)) :
  Int)) then ∀ (b : Bool), decide (List.getD (locF s) ((0 : Nat) + Int.toNat (↑x : Int)) (0 : Int) < (0 : Int)) = b → ∀ (b_2 : Bool), (bif b then true else decide ((126 : Int) < List.getD (locF s) ((0 : Nat) + Int.toNat (↑x
  : Int)) (0 : Int))) = b_2 → ∀ (b_3 : Bool), decide ((0 : Int) < (↑x : Int)) = b_3 → (((0 : Int) ≤ (↑x : Int) ∧ (↑x : Int) < (↑(List.length (locF s)) : Int)) ∧ (0 : Nat) + Int.toNat (↑x : Int) < List.length (locF s) ∧
  ((!b) = true → (!b) = true ∧ (!b) = true ∧ (0 : Int) ≤ (↑x : Int) ∧ (↑x : Int) < (↑(List.length (locF s)) : Int)) ∧ ((!b) = true → (!b) = true ∧ (0 : Nat) + Int.toNat (↑x : Int) < List.length (locF s)) ∧ ((!b) = true →
  (!b) = true) ∧ (b = false → (!b) = true) ∧ ((!b_2) = true → (!b_2) = true) ∧ ((!b_2 && !b_2 && b_3) = true → (!b_2 && !b_2 && b_3) = true ∧ (!b_2 && !b_2 && b_3) = true ∧ (0 : Int) ≤ (↑x : Int) ∧ (↑x : Int) <
  (↑(List.length (locF s)) : Int)) ∧ ((!b_2 && !b_2 && b_3) = true → (!b_2 && !b_2 && b_3) = true ∧ (0 : Nat) + Int.toNat (↑x : Int) < List.length (locF s)) ∧ ((!b_2 && !b_2 && b_3) = true → (!b_2 && !b_2 && b_3) = true) ∧
  ((!b_2 && !b_2 && b_3) = true → (!b_2 && !b_2 && b_3) = true ∧ (!b_2 && !b_2 && b_3) = true ∧ (0 : Int) ≤ IntKind.wrap IntKind.i64 ((↑x : Int) - (1 : Int)) ∧ IntKind.wrap IntKind.i64 ((↑x : Int) - (1 : Int)) <
  (↑(List.length (locF s)) : Int)) ∧ ((!b_2 && !b_2 && b_3) = true → (!b_2 && !b_2 && b_3) = true ∧ (0 : Nat) + Int.toNat (IntKind.wrap IntKind.i64 ((↑x : Int) - (1 : Int))) < List.length (locF s)) ∧ ((!b_2 && !b_2 && b_3)
  = true → (!b_2 && !b_2 && b_3) = true ∧ (!b_2 && !b_2 && b_3) = true) ∧ ((!b_2) = true → (!b_2 && !b_2) = true ∧ (b_3 = true → (!b_2 && !b_2 && b_3) = true)) ∧ (b_2 = false → (!b_2) = true)) ∧ bif bif b_2 then true else
  bif b_3 then decide (List.getD (locF s) ((0 : Nat) + Int.toNat (↑x : Int)) (0 : Int) ≤ List.getD (locF s) ((0 : Nat) + Int.toNat (IntKind.wrap IntKind.i64 ((↑x : Int) - (1 : Int)))) (0 : Int)) else false then false = true
  ∧ a = a ∧ true = true ∧ s = s ∧ true = true else (((0 : Int) ≤ (↑x : Int) ∧ (↑x : Int) < (↑(List.length (locF s)) : Int)) ∧ (0 : Nat) + Int.toNat (↑x : Int) < List.length (locF s) ∧ ((0 : Int) ≤ List.getD (locF s) ((0 :
  Nat) + Int.toNat (↑x : Int)) (0 : Int) ∧ List.getD (locF s) ((0 : Nat) + Int.toNat (↑x : Int)) (0 : Int) < (↑(127 : Nat) : Int)) ∧ Int.toNat (List.getD (locF s) ((0 : Nat) + Int.toNat (↑x : Int)) (0 : Int)) < (127 : Nat))
  ∧ ∃ (y : Nat), ((0 : Nat) = (0 : Nat) ∧ m = m ∧ (0 : Nat) = (0 : Nat) ∧ List.length (locF s) = List.length (locF s) ∧ (0 : Nat) = (0 : Nat) ∧ IntKind.wrap IntKind.i64 ((↑x : Int) + (1 : Int)) = (↑y : Int) ∧ a = a ∧ true =
  true ∧ s = s ∧ true = true ∧ locF s = locF s ∧ false = false ∧ List.set (markF (List.take x (locF s))) (Int.toNat (List.getD (locF s) ((0 : Nat) + Int.toNat (↑x : Int)) (0 : Int))) true = markF (List.take y (locF s)) ∧
  false = false) ∧ y ≤ List.length (locF s) ∧ List.length (locF s) - y < List.length (locF s) - x else ∃ (x_1 : Nat), (((0 : Nat) = (0 : Nat) ∧ m = m ∧ (0 : Nat) = (0 : Nat) ∧ List.length (locF s) = List.length (locF s) ∧
  (0 : Nat) = (0 : Nat) ∧ (20 : Nat) = (20 : Nat) ∧ (0 : Int) = (↑x_1 : Int) ∧ a = a ∧ true = true ∧ s = s ∧ true = true ∧ locF s = locF s ∧ false = false ∧ synL (markF (List.take x (locF s))) = synL (markF (List.take x
  (locF s))) ∧ false = false) ∧ x_1 ≤ (20 : Nat)) ∧ ∀ (x_2 : Nat), x_2 ≤ (20 : Nat) → IntKind.min IntKind.i64 ≤ (↑x_2 : Int) ∧ (↑x_2 : Int) ≤ IntKind.max IntKind.i64 → bif decide ((↑x_2 : Int) < (↑(20 : Nat) : Int)) then ∀
  (b : Bool), (!decide ((↑m : Int) = (↑(20 : Nat) : Int))) = b → (((!b) = true → (!b) = true ∧ (!b) = true ∧ (0 : Int) ≤ (↑x_2 : Int) ∧ (↑x_2 : Int) < (↑(20 : Nat) : Int)) ∧ ((!b) = true → (!b) = true ∧ (0 : Nat) +
  Int.toNat (↑x_2 : Int) < List.length (synL (markF (List.take x (locF s))))) ∧ ((!b) = true → (!b) = true ∧ (!b) = true ∧ (0 : Int) ≤ (↑x_2 : Int) ∧ (↑x_2 : Int) < (↑m : Int)) ∧ ((!b) = true → (!b) = true ∧ (0 : Nat) +
  Int.toNat (↑x_2 : Int) < List.length s) ∧ ((!b) = true → (!b) = true ∧ (!b) = true) ∧ (b = false → (!b) = true)) ∧ bif bif b then true else !decide (List.getD (synL (markF (List.take x (locF s)))) ((0 : Nat) + Int.toNat
  (↑x_2 : Int)) (0 : Int) = List.getD s ((0 : Nat) + Int.toNat (↑x_2 : Int)) (0 : Int)) then false = true ∧ a = a ∧ true = true ∧ s = s ∧ true = true else ∃ (y : Nat), ((0 : Nat) = (0 : Nat) ∧ m = m ∧ (0 : Nat) = (0 : Nat)
  ∧ List.length (locF s) = List.length (locF s) ∧ (0 : Nat) = (0 : Nat) ∧ (20 : Nat) = (20 : Nat) ∧ IntKind.wrap IntKind.i64 ((↑x_2 : Int) + (1 : Int)) = (↑y : Int) ∧ a = a ∧ true = true ∧ s = s ∧ true = true ∧ locF s =
  locF s ∧ false = false ∧ synL (markF (List.take x (locF s))) = synL (markF (List.take x (locF s))) ∧ false = false) ∧ y ≤ (20 : Nat) ∧ (20 : Nat) - y < (20 : Nat) - x_2 else decide ((↑(List.length (locF s)) : Int) ≤ (10 :
  Int)) = true ∧ a = a ∧ true = true ∧ s = s ∧ true = true
theorem vc25 (n m : Nat) (a s : List Int) : P25 n m a s = vcFun C25 (ann25 n m a s) Go.Proofs.Try.f25 [⟨.ref .slice, .slice 0 (.int .u8) [] 0 n⟩, ⟨.ref .slice, .slice 1 (.int .i64) [] 0 m⟩] [⟨true, false, .int .u8, a⟩, ⟨true, false, .int .i64, s⟩] (out25 n m a s) := by kernel_rfl

end Go.SL.A

/- AmendLocates' condition. -/
namespace Go.SL.A
open Go Go.SL Go.SL.S
set_option maxRecDepth 100000

/-- The statement's second half. -/
def T25 (m : Nat) (a s : List Int) : Prop :=
  (m = List.length s ∧ m ≤ (1000000000 : Nat)) ∧ bif !locB s then decide ((↑(List.length (locF s)) : Int) = (0 : Int)) = true ∧ a = a ∧ true = true ∧ s = s ∧ true = true else ∃ (x : Nat), (((0 : Nat) = (0 : Nat) ∧ m = m ∧
  (0 : Nat) = (0 : Nat) ∧ List.length (locF s) = List.length (locF s) ∧ (0 : Nat) = (0 : Nat) ∧ (0 : Int) = (↑x : Int) ∧ a = a ∧ true = true ∧ s = s ∧ true = true ∧ locF s = locF s ∧ false = false ∧ false :: List.replicate
  (nat_lit 126) false = markF (List.take x (locF s)) ∧ false = false) ∧ x ≤ List.length (locF s)) ∧ ∀ (x : Nat), x ≤ List.length (locF s) → (IntKind.min IntKind.i64 ≤ (↑x : Int) ∧ (↑x : Int) ≤ IntKind.max IntKind.i64 ∧ ∀ (y
  : List Bool), List.Mem y [markF (List.take x (locF s))] → List.length y = (127 : Nat) ∧ ∀ (y_1 : Bool), List.Mem y_1 y → True) → bif decide ((↑x : Int) < (↑(List.length (locF s)) : Int)) then ∀ (b : Bool), decide
  (List.getD (locF s) ((0 : Nat) + Int.toNat (↑x : Int)) (0 : Int) < (0 : Int)) = b → ∀ (b_2 : Bool), (bif b then true else decide ((126 : Int) < List.getD (locF s) ((0 : Nat) + Int.toNat (↑x : Int)) (0 : Int))) = b_2 → ∀
  (b_3 : Bool), decide ((0 : Int) < (↑x : Int)) = b_3 → (((0 : Int) ≤ (↑x : Int) ∧ (↑x : Int) < (↑(List.length (locF s)) : Int)) ∧ (0 : Nat) + Int.toNat (↑x : Int) < List.length (locF s) ∧ ((!b) = true → (!b) = true ∧ (!b)
  = true ∧ (0 : Int) ≤ (↑x : Int) ∧ (↑x : Int) < (↑(List.length (locF s)) : Int)) ∧ ((!b) = true → (!b) = true ∧ (0 : Nat) + Int.toNat (↑x : Int) < List.length (locF s)) ∧ ((!b) = true → (!b) = true) ∧ (b = false → (!b) =
  true) ∧ ((!b_2) = true → (!b_2) = true) ∧ ((!b_2 && !b_2 && b_3) = true → (!b_2 && !b_2 && b_3) = true ∧ (!b_2 && !b_2 && b_3) = true ∧ (0 : Int) ≤ (↑x : Int) ∧ (↑x : Int) < (↑(List.length (locF s)) : Int)) ∧ ((!b_2 &&
  !b_2 && b_3) = true → (!b_2 && !b_2 && b_3) = true ∧ (0 : Nat) + Int.toNat (↑x : Int) < List.length (locF s)) ∧ ((!b_2 && !b_2 && b_3) = true → (!b_2 && !b_2 && b_3) = true) ∧ ((!b_2 && !b_2 && b_3) = true → (!b_2 && !b_2
  && b_3) = true ∧ (!b_2 && !b_2 && b_3) = true ∧ (0 : Int) ≤ IntKind.wrap IntKind.i64 ((↑x : Int) - (1 : Int)) ∧ IntKind.wrap IntKind.i64 ((↑x : Int) - (1 : Int)) < (↑(List.length (locF s)) : Int)) ∧ ((!b_2 && !b_2 && b_3)
  = true → (!b_2 && !b_2 && b_3) = true ∧ (0 : Nat) + Int.toNat (IntKind.wrap IntKind.i64 ((↑x : Int) - (1 : Int))) < List.length (locF s)) ∧ ((!b_2 && !b_2 && b_3) = true → (!b_2 && !b_2 && b_3) = true ∧ (!b_2 && !b_2 &&
  b_3) = true) ∧ ((!b_2) = true → (!b_2 && !b_2) = true ∧ (b_3 = true → (!b_2 && !b_2 && b_3) = true)) ∧ (b_2 = false → (!b_2) = true)) ∧ bif bif b_2 then true else bif b_3 then decide (List.getD (locF s) ((0 : Nat) +
  Int.toNat (↑x : Int)) (0 : Int) ≤ List.getD (locF s) ((0 : Nat) + Int.toNat (IntKind.wrap IntKind.i64 ((↑x : Int) - (1 : Int)))) (0 : Int)) else false then false = true ∧ a = a ∧ true = true ∧ s = s ∧ true = true else
  (((0 : Int) ≤ (↑x : Int) ∧ (↑x : Int) < (↑(List.length (locF s)) : Int)) ∧ (0 : Nat) + Int.toNat (↑x : Int) < List.length (locF s) ∧ ((0 : Int) ≤ List.getD (locF s) ((0 : Nat) + Int.toNat (↑x : Int)) (0 : Int) ∧ List.getD
  (locF s) ((0 : Nat) + Int.toNat (↑x : Int)) (0 : Int) < (↑(127 : Nat) : Int)) ∧ Int.toNat (List.getD (locF s) ((0 : Nat) + Int.toNat (↑x : Int)) (0 : Int)) < (127 : Nat)) ∧ ∃ (y : Nat), ((0 : Nat) = (0 : Nat) ∧ m = m ∧ (0
  : Nat) = (0 : Nat) ∧ List.length (locF s) = List.length (locF s) ∧ (0 : Nat) = (0 : Nat) ∧ IntKind.wrap IntKind.i64 ((↑x : Int) + (1 : Int)) = (↑y : Int) ∧ a = a ∧ true = true ∧ s = s ∧ true = true ∧ locF s = locF s ∧
  false = false ∧ List.set (markF (List.take x (locF s))) (Int.toNat (List.getD (locF s) ((0 : Nat) + Int.toNat (↑x : Int)) (0 : Int))) true = markF (List.take y (locF s)) ∧ false = false) ∧ y ≤ List.length (locF s) ∧
  List.length (locF s) - y < List.length (locF s) - x else ∃ (x_1 : Nat), (((0 : Nat) = (0 : Nat) ∧ m = m ∧ (0 : Nat) = (0 : Nat) ∧ List.length (locF s) = List.length (locF s) ∧ (0 : Nat) = (0 : Nat) ∧ (20 : Nat) = (20 :
  Nat) ∧ (0 : Int) = (↑x_1 : Int) ∧ a = a ∧ true = true ∧ s = s ∧ true = true ∧ locF s = locF s ∧ false = false ∧ synL (markF (List.take x (locF s))) = synL (markF (List.take x (locF s))) ∧ false = false) ∧ x_1 ≤ (20 :
  Nat)) ∧ ∀ (x_2 : Nat), x_2 ≤ (20 : Nat) → IntKind.min IntKind.i64 ≤ (↑x_2 : Int) ∧ (↑x_2 : Int) ≤ IntKind.max IntKind.i64 → bif decide ((↑x_2 : Int) < (↑(20 : Nat) : Int)) then ∀ (b : Bool), (!decide ((↑m : Int) = (↑(20 :
  Nat) : Int))) = b → (((!b) = true → (!b) = true ∧ (!b) = true ∧ (0 : Int) ≤ (↑x_2 : Int) ∧ (↑x_2 : Int) < (↑(20 : Nat) : Int)) ∧ ((!b) = true → (!b) = true ∧ (0 : Nat) + Int.toNat (↑x_2 : Int) < List.length (synL (markF
  (List.take x (locF s))))) ∧ ((!b) = true → (!b) = true ∧ (!b) = true ∧ (0 : Int) ≤ (↑x_2 : Int) ∧ (↑x_2 : Int) < (↑m : Int)) ∧ ((!b) = true → (!b) = true ∧ (0 : Nat) + Int.toNat (↑x_2 : Int) < List.length s) ∧ ((!b) =
  true → (!b) = true ∧ (!b) = true) ∧ (b = false → (!b) = true)) ∧ bif bif b then true else !decide (List.getD (synL (markF (List.take x (locF s)))) ((0 : Nat) + Int.toNat (↑x_2 : Int)) (0 : Int) = List.getD s ((0 : Nat) +
  Int.toNat (↑x_2 : Int)) (0 : Int)) then false = true ∧ a = a ∧ true = true ∧ s = s ∧ true = true else ∃ (y : Nat), ((0 : Nat) = (0 : Nat) ∧ m = m ∧ (0 : Nat) = (0 : Nat) ∧ List.length (locF s) = List.length (locF s) ∧ (0
  : Nat) = (0 : Nat) ∧ (20 : Nat) = (20 : Nat) ∧ IntKind.wrap IntKind.i64 ((↑x_2 : Int) + (1 : Int)) = (↑y : Int) ∧ a = a ∧ true = true ∧ s = s ∧ true = true ∧ locF s = locF s ∧ false = false ∧ synL (markF (List.take x
  (locF s))) = synL (markF (List.take x (locF s))) ∧ false = false) ∧ y ≤ (20 : Nat) ∧ (20 : Nat) - y < (20 : Nat) - x_2 else decide ((↑(List.length (locF s)) : Int) ≤ (10 : Int)) = true ∧ a = a ∧ true = true ∧ s = s ∧ true
  = true

theorem pred_i {i : Nat} (h0 : 0 < i) (h : i ≤ 1000000) : IntKind.i64.wrap ((i : Int) - 1) = ((i - 1 : Nat) : Int) := by
  rw [w64 (by omega) (by omega)]; omega

theorem tail25 (m : Nat) (a s : List Int) (hm : m = s.length) (hm2 : m ≤ 60) : T25 m a s := by
  unfold T25
  simp only [eq_self, true_and, and_true, Int.toNat_natCast, Nat.zero_add]
  refine ⟨⟨hm, by omega⟩, ?_⟩
  cases hB : locB s with
  | false =>
    rw [Bool.not_false, cond_true, loc_none hB]; rfl
  | true =>
    obtain ⟨l20, hF, l10, hS⟩ := loc_ok hB
    rw [Bool.not_true, cond_false]
    have hz : false :: List.replicate 126 false = markF (List.take 0 (locF s)) := rfl
    have hr := locF_rng s
    have hup : ∀ i, 0 < i → i < (locF s).length → (locF s).getD (i - 1) 0 < (locF s).getD i 0 := fun i h0 hi => by rw [hF] at hi ⊢; exact plc_lt h0 hi
    clear hF
    generalize locF s = l at *
    refine ⟨0, ⟨⟨rfl, hz⟩, by omega⟩, fun i hi hw => ?_⟩
    clear hw
    by_cases hc : (i : Int) < (l.length : Int)
    · have hx := hr.2 _ (getD_mem (d := 0) (show i < l.length by omega))
      rw [decide_eq_true hc, cond_true]
      intro b hb b2 hb2 b3 hb3
      have hb : false = b := by rw [← hb]; exact (decide_eq_false (by omega)).symm
      subst hb
      have hb2 : false = b2 := by rw [← hb2, cond_false]; exact (decide_eq_false (by omega)).symm
      subst hb2
      have h3 : b3 = true → 0 < i := fun h => by have := of_decide_eq_true (hb3.trans h); omega
      have hz : (bif b3 then decide (l.getD i 0 ≤ l.getD (IntKind.i64.wrap ((i : Int) - 1)).toNat 0) else false) = false := by
        cases b3 with
        | false => rfl
        | true =>
          have h0 := h3 rfl
          rw [cond_true, pred_i h0 (by omega), Int.toNat_natCast]
          have := hup i h0 (by omega)
          exact decide_eq_false (by omega)
      refine ⟨?_, ?_⟩
      · cases b3 with
        | false => simp [-List.getD_eq_getElem?_getD]; omega
        | true =>
          rw [pred_i (h3 rfl) (by omega)]
          have h0 := h3 rfl
          simp [-List.getD_eq_getElem?_getD]; omega
      · rw [cond_false, hz, cond_false]
        exact ⟨⟨⟨by omega, by omega⟩, by omega, ⟨by omega, by omega⟩, by omega⟩, i + 1, ⟨step_i (by omega), mark_step (by omega)⟩, by omega, by omega⟩
    · have : i = l.length := by omega
      subst this
      rw [decide_eq_false hc, cond_false, List.take_length, hS]
      refine ⟨0, ⟨rfl, by omega⟩, fun k hk hw => ?_⟩
      clear hw
      by_cases hk2 : (k : Int) < ((20 : Nat) : Int)
      · rw [decide_eq_true hk2, cond_true]
        intro b hb
        have hb : false = b := by rw [← hb, decide_eq_true (by omega)]; rfl
        subst hb
        refine ⟨by simp; omega, ?_⟩
        rw [cond_false, decide_eq_true rfl, Bool.not_true, cond_false]
        exact ⟨k + 1, step_i (by omega), by omega, by omega⟩
      · rw [decide_eq_false hk2, cond_false]
        exact decide_eq_true (by omega)

theorem pure25 (n m : Nat) (a s : List Int) (hp : n = a.length ∧ m = s.length) : P25 n m a s := by
  obtain ⟨h1, h2⟩ := hp
  have ht := tail25 m a s h2
  unfold T25 at ht
  unfold P25
  simp only [eq_self, true_and, and_true, Int.toNat_natCast, Nat.zero_add] at ht ⊢
  rintro _ rfl b1 hb1
  rw [cond_false] at hb1
  refine ⟨by cases b1 <;> simp, ?_⟩
  cases hc : (bif b1 then true else decide (60 < (m : Int))) with
  | true => rw [cond_true]; trivial
  | false =>
    rw [cond_false]
    have hn : ¬ (40 : Int) < n ∧ ¬ (60 : Int) < m := by
      cases b1 with
      | true => cases hc
      | false => exact ⟨of_decide_eq_false hb1, of_decide_eq_false hc⟩
    have ht := ht (by omega)
    have hl := holes_len a
    have cf := cn_fit (bw (holesF a))
    generalize holesF a = h at *
    refine ⟨⟨h1, by omega⟩, 0, ⟨⟨rfl, rfl⟩, by omega⟩, fun i hi hw => ?_⟩
    clear hw
    by_cases hc : (i : Int) < 127
    · rw [decide_eq_true hc, cond_true]
      refine ⟨⟨⟨by omega, by omega⟩, by omega⟩, ?_⟩
      have hb : h.getD i false = bw h i := rfl
      have hs : cn (i + 1) (bw h) = cn i (bw h) + (if bw h i = true then 1 else 0) := rfl
      have hf := cf i
      rw [hb]
      cases hh : bw h i with
      | true =>
        rw [hh, if_pos rfl] at hs
        rw [cond_true]
        exact ⟨i + 1, ⟨by rw [w64 (by omega) (by omega)]; omega, step_i (by omega)⟩, by omega, by omega⟩
      | false =>
        rw [hh, if_neg (by simp)] at hs
        rw [cond_false]
        exact ⟨i + 1, ⟨by omega, step_i (by omega)⟩, by omega, by omega⟩
    · have : i = 127 := by omega
      subst this
      rw [decide_eq_false hc, cond_false]
      refine ⟨⟨(synL_len h).symm, by omega⟩, ?_⟩
      by_cases h10 : (cn 127 (bw h) : Int) ≤ 10
      · rw [decide_eq_true h10, cond_true]
        obtain ⟨e1, e2⟩ := loc_few hl (by omega)
        rw [e1, e2]
        rintro _ rfl
        refine ⟨by simp, ?_⟩
        have hpl := plc_len (bw h) 127
        have hup : ∀ i, 0 < i → i < (plc (bw h) 127).length → (plc (bw h) 127).getD (i - 1) 0 < (plc (bw h) 127).getD i 0 := fun i h0 hi => plc_lt h0 hi
        have hmem : ∀ x ∈ plc (bw h) 127, ∃ k : Nat, k < 127 ∧ bw h k = true ∧ x = (k : Int) := fun x hx => plc_mem hx
        generalize plc (bw h) 127 = l at *
        rw [Bool.not_true, cond_false, hpl, decide_eq_true rfl, Bool.not_true, cond_false]
        refine ⟨0, ⟨rfl, by omega⟩, fun i hi hw => ?_⟩
        clear hw
        by_cases hi2 : (i : Int) < (cn 127 (bw h) : Int)
        · rw [decide_eq_true hi2, cond_true]
          obtain ⟨k, k1, k2, k3⟩ := hmem _ (getD_mem (d := 0) (show i < l.length by omega))
          intro b hb b3 hb3
          have hb : false = b := by
            rw [← hb, k3, Int.toNat_natCast]
            have : h.getD k false = true := k2
            rw [this]; rfl
          subst hb
          have h3 : b3 = true → 0 < i := fun h => by have := of_decide_eq_true (hb3.trans h); omega
          have hz : (bif b3 then decide (l.getD i 0 ≤ l.getD (IntKind.i64.wrap ((i : Int) - 1)).toNat 0) else false) = false := by
            cases b3 with
            | false => rfl
            | true =>
              have h0 := h3 rfl
              rw [cond_true, pred_i h0 (by omega), Int.toNat_natCast]
              have := hup i h0 (by omega)
              exact decide_eq_false (by omega)
          refine ⟨?_, ?_⟩
          · cases b3 with
            | false => simp [-List.getD_eq_getElem?_getD]; omega
            | true =>
              rw [pred_i (h3 rfl) (by omega)]
              have h0 := h3 rfl
              simp [-List.getD_eq_getElem?_getD]; omega
          · rw [cond_false, hz, cond_false]
            exact ⟨i + 1, step_i (by omega), by omega, by omega⟩
        · rw [decide_eq_false hi2, cond_false]
          exact ht
      · rw [decide_eq_false h10, cond_false]
        exact ht
end Go.SL.A

/- Functions do what they are held to do. -/
namespace Go.SL.A
open Go Go.SL Go.SL.S
theorem snd25 : Sound Go.Proofs.Try.prog G25 := snd67.add ⟨_, Go.Proofs.Try.func25, by kernel_rfl, by kernel_rfl⟩ (by
  intro args ins out h hp
  unfold sp25 at h
  split at h
  · rename_i n m a s
    cases h
    exact vcFun_ok (C := C25) good snd67 Meth.none mix Go.Proofs.Try.func25 (ann25 n m a s) (fun hw => by rw [← vc25 n m a s]; exact pure25 n m a s hp)
  · cases h)

end Go.SL.A

/- AmendLocates: the law returns true, whatever its arguments; each argument reads afterwards as before. No condition. -/
namespace Go.Proofs.Ythhfccnhkadkcaa
open Go Go.SL Go.SL.S Go.ChangeShapes Go.WideShapes Go.ChangeAt Go.WideMaps Go.WideElems Go.RowKit
set_option maxRecDepth 100000

theorem parsT : ((Go.Proofs.Try.f25.params.toList).all fun t => Nat.blt t Go.Proofs.Try.prog.types.size) = true := by kernel_rfl
theorem parsL : Go.Proofs.Try.f25.params.toList = [87, 33] := by kernel_rfl
theorem law_pure : ∀ avs bls, argsOk Go.SL.A.D Go.Proofs.Try.f25.params.toList 0 avs bls → VCall Go.Proofs.Try.prog 25 avs bls ⟨[], .v .bool true, [], []⟩ := by
  rw [parsL]
  intro avs bls h
  replace h : ∃ (t : Ty) (xs : List t.I) (avs' : List AV) (bls' : List Blk), Go.SL.A.D.ty 5 = some t ∧ avs = ⟨.ref .slice, .slice 0 t [] 0 xs.length⟩ :: avs' ∧ bls = ⟨true, false, t, xs⟩ :: bls' ∧ argsOk Go.SL.A.D [33] 1 avs' bls' := h
  obtain ⟨t, x0, avs, bls, ht, rfl, rfl, h⟩ := h
  obtain rfl : .int .u8 = t := Option.some.inj ((show (some (.int .u8) : Option Ty) = Go.SL.A.D.ty 5 by kernel_rfl).trans ht)
  replace h : ∃ (t : Ty) (xs : List t.I) (avs' : List AV) (bls' : List Blk), Go.SL.A.D.ty 3 = some t ∧ avs = ⟨.ref .slice, .slice 1 t [] 0 xs.length⟩ :: avs' ∧ bls = ⟨true, false, t, xs⟩ :: bls' ∧ argsOk Go.SL.A.D [] 2 avs' bls' := h
  obtain ⟨t, x1, avs, bls, ht, rfl, rfl, h⟩ := h
  obtain rfl : .int .i64 = t := Option.some.inj ((show (some (.int .i64) : Option Ty) = Go.SL.A.D.ty 3 by kernel_rfl).trans ht)
  obtain ⟨rfl, rfl⟩ : avs = [] ∧ bls = [] := h
  have q := (Go.SL.A.snd25 25 Go.SL.A.sp25 rfl).2 [⟨.ref .slice, .slice 0 (.int .u8) [] 0 x0.length⟩, ⟨.ref .slice, .slice 1 (.int .i64) [] 0 x1.length⟩] [⟨true, false, .int .u8, x0⟩, ⟨true, false, .int .i64, x1⟩] _ rfl (⟨rfl, rfl⟩)
  exact q

theorem lifted (os : Os) (started : os.Started) (H : Type) (enc : TypeId × Value → H) :
    ReturnsInHanded {} Go.Proofs.Try.checked os 25 .any (Rows.amendLocatesSpec.pre6 enc Go.Proofs.Try.prog Go.Proofs.Try.f25 Rows.amendLocatesRow.domain false) (Rows.amendLocatesSpec.post enc Go.Proofs.Try.prog Go.Proofs.Try.f25 false true false false) := by
  refine returnsInHanded_of_change (C := Go.Proofs.Try.checked) Seat.own started (by kernel_rfl) Go.Proofs.Try.func25
    (ChangeSpec.witness6 (enc := enc) (C := Go.Proofs.Try.checked) false ⟨#[], #[.slice none 0 0, .slice none 0 0], []⟩ 8 (by kernel_rfl) (by kernel_rfl) (by kernel_rfl) (by kernel_rfl)) ?_
  intro W base args ds gs before hval hW _ _
  refine law_calls (D := Go.SL.A.D) Go.SL.A.good Seat.kids Seat.slicesFull (fun t ht => Nat.le_of_ble_eq_true (List.all_eq_true.1 parsT t ht)) (by kernel_rfl) (show Go.Proofs.Try.f25.resultTypes = #[4] by kernel_rfl) Go.Proofs.Try.underlying4 rfl (fun ds h => ?_) law_pure (fun _ _ h => by cases (show none = some _ from h)) hval hW
  have h : ds.length = 2 := h
  match ds, h with
  | [_, _], _ => rfl

theorem joined : joinedFacts Go.Proofs.Try.prog 25 Go.Proofs.Try.f25 Rows.amendLocatesSpec Rows.amendLocatesRow = true := by
  unfold joinedFacts
  exact (andT (andT (andT (andT (andT (andT (andT (andT (andT (andT (andT (andT (andT (andT (andT (andT (andT (andT (andT (andT (andT (andT (andT (andT (andT (andT (andT (andT (andT (andT (andT (by as_aux_lemma => kernel_rfl) Seat.laidOut) Seat.mapsRowed) (by as_aux_lemma => kernel_rfl)) (by as_aux_lemma => kernel_rfl)) (by as_aux_lemma => kernel_rfl)) Seat.stops) (by as_aux_lemma => kernel_rfl)) Seat.knobs) (by as_aux_lemma => kernel_rfl)) (by as_aux_lemma => kernel_rfl)) (by as_aux_lemma => kernel_rfl)) (by as_aux_lemma => kernel_rfl)) (by as_aux_lemma => kernel_rfl)) (by as_aux_lemma => kernel_rfl)) (by as_aux_lemma => kernel_rfl)) (by as_aux_lemma => kernel_rfl)) (by as_aux_lemma => kernel_rfl)) (by as_aux_lemma => kernel_rfl)) (by as_aux_lemma => kernel_rfl)) (by as_aux_lemma => kernel_rfl)) (by as_aux_lemma => kernel_rfl)) (by as_aux_lemma => kernel_rfl)) (by as_aux_lemma => kernel_rfl)) Seat.heard) Seat.mayEnter) (by rw [Seat.lifts]; rfl)) (by rw [Seat.made]; rfl)) (by as_aux_lemma => kernel_rfl)) (by as_aux_lemma => kernel_rfl)) (by as_aux_lemma => kernel_rfl)) (by as_aux_lemma => kernel_rfl))

theorem amendLocates_holds : Rows.AmendLocatesSaid :=
  OpenClaim.holds_of_wide 25 Go.Proofs.Try.f25 rfl rfl rfl rfl rfl rfl rfl ⟨rfl, rfl, rfl, rfl, rfl⟩ rfl rfl rfl rfl rfl (by kernel_rfl) Go.Proofs.Try.func25 joined
    (of_decide_eq_true (by kernel_rfl)) (by unfold Func.isWrapper; first | (rw [if_pos (by decide +kernel)]; kernel_rfl) | (rw [if_neg (by decide +kernel)]; exact ⟨rfl, rfl⟩))
    (fun os started H enc _ => lifted os started H enc)

#print axioms amendLocates_holds
end Go.Proofs.Ythhfccnhkadkcaa
