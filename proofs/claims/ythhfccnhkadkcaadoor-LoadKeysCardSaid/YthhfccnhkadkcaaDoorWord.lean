/- Codewords: the functions of the package bch, part b, and the document's. -/
import Derived.Test.YthhfccnhkadkcaaDoorField

/- Generators: plain functions. -/
namespace Go.SL.S
open Go Go.SL
def timesE (p : List E) (a : E) : List E := (List.range (p.length + 1)).map fun j => (if j = 0 then 0 else p.getD (j - 1) 0) ^^^ ml (p.getD j 0) a
def nextE (p : List E) (a : E) (i : Nat) : List E := (List.range (p.length + 1)).map fun j =>
  if j < i then (if j = 0 then 0 else p.getD (j - 1) 0) ^^^ ml (p.getD j 0) a else if j = i ∧ 0 < i then p.getD (j - 1) 0 else 0
def timesI (p : List Int) (a : Int) : List Int := (timesE (p.map toE) (toE a)).map ofE
def nextI (p : List Int) (a : Int) (i : Nat) : List Int := (nextE (p.map toE) (toE a) i).map ofE
def rootsTo : Nat → List Bool
  | 0 => List.replicate 127 false
  | k + 1 => (rootsTo k).set ((k / 7 + 1) * 2 ^ (k % 7) % 127) true
def rootsF : List Bool := rootsTo 140
def genTo : Nat → List Int
  | 0 => [1]
  | n + 1 => if bw rootsF n then timesI (genTo n) (ofE (ex n)) else genTo n
def genF : List Int := genTo 127
def rootA (k : Nat) : Int := ofE (ex ((k / 7 + 1) * 2 ^ (k % 7)))
def refG : Nat → List Bool × List Int
  | 0 => (List.replicate 128 false, [1])
  | k + 1 => if bw (refG k).1 (rootA k).toNat then refG k else ((refG k).1.set (rootA k).toNat true, timesI (refG k).2 (rootA k))
end Go.SL.S

/- Functions and what they are held to do: bound to their code. -/
namespace Go.SL.A
open Go Go.SL Go.SL.S
set_option maxRecDepth 100000
noncomputable def C135 : Ctx := ⟨Go.Proofs.Tryd.prog, D, G70, (fun _ _ => none), fun _ => []⟩
def ann135 (n : Nat) (p : List Int) (a : Int) : Nat → St → Option Ann := fun _ _ => some ⟨Nat, [0, 1, 5], [0], fun i => [(6, .v (.int .i64) (i : Int))], fun i => [(1, some ⟨false, false, .int .i64, nextI p a i⟩)], fun i => i ≤ n, fun i => n - i⟩
def out135 (n : Nat) (p : List Int) (a : Int) : COut := ⟨[n = p.length ∧ n ≤ 1000, ∀ x ∈ p, 0 ≤ x ∧ x < 128], .v (.ref .slice) (.slice 1 (.int .i64) [] 0 (n + 1)), [], [⟨false, false, .int .i64, timesI p a⟩]⟩
def sp135 : Spec := fun args ins => match args, ins with
  | [⟨.ref .slice, .slice 0 (.int .i64) [] 0 n⟩, ⟨.int .i64, a⟩], [⟨false, false, .int .i64, p⟩] => some (out135 n p a)
  | _, _ => none
def G135 := addG G70 100 sp135
def P135 (n : Nat) (p : List Int) (a : Int) : Prop :=
  ((0 : Int) ≤ IntKind.wrap IntKind.i64 ((↑n : Int) + (1 : Int)) ∧ IntKind.wrap IntKind.i64 ((↑n : Int) + (1 : Int)) = IntKind.wrap IntKind.i64 ((↑n : Int) + (1 : Int)) ∧ IntKind.wrap IntKind.i64 ((↑n : Int) + (1 : Int)) *
  (↑(8 : Nat) : Int) ≤ (↑(70368744177664 : Nat) : Int) ∧ IntKind.wrap IntKind.i64 ((↑n : Int) + (1 : Int)) ≤ (↑(70368744177664 : Nat) : Int)) ∧ ∃ (x : Nat), (((0 : Nat) = (0 : Nat) ∧ n = n ∧ a = a ∧ (0 : Nat) = (0 : Nat) ∧
  Int.toNat (IntKind.wrap IntKind.i64 ((↑n : Int) + (1 : Int))) = Int.toNat (IntKind.wrap IntKind.i64 ((↑n : Int) + (1 : Int))) ∧ (0 : Int) = (↑x : Int) ∧ p = p ∧ false = false ∧ List.replicate (Int.toNat (IntKind.wrap
  IntKind.i64 ((↑n : Int) + (1 : Int)))) (0 : Int) = nextI p a x ∧ false = false) ∧ x ≤ n) ∧ ∀ (x : Nat), x ≤ n → (IntKind.min IntKind.i64 ≤ (↑x : Int) ∧ (↑x : Int) ≤ IntKind.max IntKind.i64 ∧ ∀ (y : Int), List.Mem y (nextI
  p a x) → IntKind.min IntKind.i64 ≤ y ∧ y ≤ IntKind.max IntKind.i64) → bif decide ((↑x : Int) < (↑n : Int)) then (((0 : Int) ≤ IntKind.wrap IntKind.i64 ((↑x : Int) + (1 : Int)) ∧ IntKind.wrap IntKind.i64 ((↑x : Int) + (1 :
  Int)) < (↑(Int.toNat (IntKind.wrap IntKind.i64 ((↑n : Int) + (1 : Int)))) : Int)) ∧ (0 : Nat) + Int.toNat (IntKind.wrap IntKind.i64 ((↑x : Int) + (1 : Int))) < List.length (nextI p a x) ∧ ((0 : Int) ≤ (↑x : Int) ∧ (↑x :
  Int) < (↑n : Int)) ∧ (0 : Nat) + Int.toNat (↑x : Int) < List.length p ∧ ((0 : Int) ≤ IntKind.wrap IntKind.i64 ((↑x : Int) + (1 : Int)) ∧ IntKind.wrap IntKind.i64 ((↑x : Int) + (1 : Int)) < (↑(Int.toNat (IntKind.wrap
  IntKind.i64 ((↑n : Int) + (1 : Int)))) : Int)) ∧ (0 : Nat) + Int.toNat (IntKind.wrap IntKind.i64 ((↑x : Int) + (1 : Int))) < List.length (nextI p a x)) ∧ (((0 : Int) ≤ (↑x : Int) ∧ (↑x : Int) < (↑(Int.toNat (IntKind.wrap
  IntKind.i64 ((↑n : Int) + (1 : Int)))) : Int)) ∧ (0 : Nat) + Int.toNat (↑x : Int) < List.length (List.set (nextI p a x) ((0 : Nat) + Int.toNat (IntKind.wrap IntKind.i64 ((↑x : Int) + (1 : Int)))) (ixor IntKind.i64
  (List.getD (nextI p a x) ((0 : Nat) + Int.toNat (IntKind.wrap IntKind.i64 ((↑x : Int) + (1 : Int)))) (0 : Int)) (List.getD p ((0 : Nat) + Int.toNat (↑x : Int)) (0 : Int)))) ∧ ((0 : Int) ≤ (↑x : Int) ∧ (↑x : Int) < (↑n :
  Int)) ∧ (0 : Nat) + Int.toNat (↑x : Int) < List.length p ∧ ((0 : Int) ≤ (↑x : Int) ∧ (↑x : Int) < (↑(Int.toNat (IntKind.wrap IntKind.i64 ((↑n : Int) + (1 : Int)))) : Int)) ∧ (0 : Nat) + Int.toNat (↑x : Int) < List.length
  (List.set (nextI p a x) ((0 : Nat) + Int.toNat (IntKind.wrap IntKind.i64 ((↑x : Int) + (1 : Int)))) (ixor IntKind.i64 (List.getD (nextI p a x) ((0 : Nat) + Int.toNat (IntKind.wrap IntKind.i64 ((↑x : Int) + (1 : Int)))) (0
  : Int)) (List.getD p ((0 : Nat) + Int.toNat (↑x : Int)) (0 : Int))))) ∧ ∃ (y : Nat), ((0 : Nat) = (0 : Nat) ∧ n = n ∧ a = a ∧ (0 : Nat) = (0 : Nat) ∧ Int.toNat (IntKind.wrap IntKind.i64 ((↑n : Int) + (1 : Int))) =
  Int.toNat (IntKind.wrap IntKind.i64 ((↑n : Int) + (1 : Int))) ∧ IntKind.wrap IntKind.i64 ((↑x : Int) + (1 : Int)) = (↑y : Int) ∧ p = p ∧ false = false ∧ List.set (List.set (nextI p a x) ((0 : Nat) + Int.toNat
  (IntKind.wrap IntKind.i64 ((↑x : Int) + (1 : Int)))) (ixor IntKind.i64 (List.getD (nextI p a x) ((0 : Nat) + Int.toNat (IntKind.wrap IntKind.i64 ((↑x : Int) + (1 : Int)))) (0 : Int)) (List.getD p ((0 : Nat) + Int.toNat
  (↑x : Int)) (0 : Int)))) ((0 : Nat) + Int.toNat (↑x : Int)) (ixor IntKind.i64 (List.getD (List.set (nextI p a x) ((0 : Nat) + Int.toNat (IntKind.wrap IntKind.i64 ((↑x : Int) + (1 : Int)))) (ixor IntKind.i64 (List.getD
  (nextI p a x) ((0 : Nat) + Int.toNat (IntKind.wrap IntKind.i64 ((↑x : Int) + (1 : Int)))) (0 : Int)) (List.getD p ((0 : Nat) + Int.toNat (↑x : Int)) (0 : Int)))) ((0 : Nat) + Int.toNat (↑x : Int)) (0 : Int)) (mlI
  (List.getD p ((0 : Nat) + Int.toNat (↑x : Int)) (0 : Int)) a)) = nextI p a y ∧ false = false) ∧ y ≤ n ∧ n - y < n - x else (0 : Nat) = (0 : Nat) ∧ Int.toNat (IntKind.wrap IntKind.i64 ((↑n : Int) + (1 : Int))) = n + (1 :
  Nat) ∧ p = p ∧ false = false ∧ nextI p a x = timesI p a ∧ false = false
theorem vc135 (n : Nat) (p : List Int) (a : Int) : P135 n p a = vcFun C135 (ann135 n p a) Go.Proofs.Tryd.f100 [⟨.ref .slice, .slice 0 (.int .i64) [] 0 n⟩, ⟨.int .i64, a⟩] [⟨false, false, .int .i64, p⟩] (out135 n p a) := by kernel_rfl

noncomputable def C138 : Ctx := ⟨Go.Proofs.Tryd.prog, D, G135, (fun _ _ => none), fun _ => []⟩
def ann138  : Nat → St → Option Ann := fun id S => match id with | 0 => some ⟨Nat, [0, 1], [0], fun i => [(2, .v (.int .i64) ((i : Int) + 1))], fun i => [(1, some ⟨false, true, .arr 127 .bool, [rootsTo (i * 7)]⟩)], fun i => i ≤ 20, fun i => 20 - i⟩ | _ => some ⟨Nat, [0, 1, 2], [0], fun j => [(8, .v (.int .i64) (j : Int))], fun j => [(1, some ⟨false, true, .arr 127 .bool, [rootsTo (((S.i 2).toNat - 1) * 7 + j)]⟩)], fun j => j ≤ 7, fun j => 7 - j⟩
def out138  : COut := ⟨[], .v (.arr 127 .bool) rootsF, [], []⟩
def sp138 : Spec := fun args ins => match args, ins with
  | [], [] => some out138
  | _, _ => none
def G138 := addG G135 122 sp138
def P138  : Prop :=
  ∃ (x : Nat), (((0 : Nat) = (0 : Nat) ∧ (0 : Nat) = (0 : Nat) ∧ (1 : Int) = (↑x : Int) + (1 : Int) ∧ false :: List.replicate (nat_lit 126) false = List.replicate (127 : Nat) false ∧ false = false ∧ false :: List.replicate
  (nat_lit 126) false = rootsTo (x * (7 : Nat)) ∧ false = false) ∧ x ≤ (20 : Nat)) ∧ ∀ (x : Nat), x ≤ (20 : Nat) → (IntKind.min IntKind.i64 ≤ (↑x : Int) + (1 : Int) ∧ (↑x : Int) + (1 : Int) ≤ IntKind.max IntKind.i64 ∧ ∀ (y
  : List Bool), List.Mem y [rootsTo (x * (7 : Nat))] → List.length y = (127 : Nat) ∧ ∀ (y_1 : Bool), List.Mem y_1 y → True) → bif decide ((↑x : Int) + (1 : Int) ≤ (20 : Int)) then ∃ (x_1 : Nat), (((0 : Nat) = (0 : Nat) ∧ (0
  : Nat) = (0 : Nat) ∧ (↑x : Int) + (1 : Int) = (↑x : Int) + (1 : Int) ∧ (0 : Int) = (↑x_1 : Int) ∧ false :: List.replicate (nat_lit 126) false = List.replicate (127 : Nat) false ∧ false = false ∧ rootsTo (x * (7 : Nat)) =
  rootsTo ((Int.toNat ((↑x : Int) + (1 : Int)) - (1 : Nat)) * (7 : Nat) + x_1) ∧ false = false) ∧ x_1 ≤ (7 : Nat)) ∧ ∀ (x_2 : Nat), x_2 ≤ (7 : Nat) → (IntKind.min IntKind.i64 ≤ (↑x_2 : Int) ∧ (↑x_2 : Int) ≤ IntKind.max
  IntKind.i64 ∧ ∀ (y : List Bool), List.Mem y [rootsTo ((Int.toNat ((↑x : Int) + (1 : Int)) - (1 : Nat)) * (7 : Nat) + x_2)] → List.length y = (127 : Nat) ∧ ∀ (y_1 : Bool), List.Mem y_1 y → True) → bif decide ((↑x_2 : Int)
  < (7 : Int)) then ((0 : Int) ≤ (↑x_2 : Int) ∧ (127 : Int) ≠ (0 : Int) ∧ ((0 : Int) ≤ Int.tmod (ishl IntKind.i64 ((↑x : Int) + (1 : Int)) (↑x_2 : Int)) (127 : Int) ∧ Int.tmod (ishl IntKind.i64 ((↑x : Int) + (1 : Int))
  (↑x_2 : Int)) (127 : Int) < (↑(127 : Nat) : Int)) ∧ Int.toNat (Int.tmod (ishl IntKind.i64 ((↑x : Int) + (1 : Int)) (↑x_2 : Int)) (127 : Int)) < (127 : Nat)) ∧ ∃ (y : Nat), ((0 : Nat) = (0 : Nat) ∧ (0 : Nat) = (0 : Nat) ∧
  (↑x : Int) + (1 : Int) = (↑x : Int) + (1 : Int) ∧ IntKind.wrap IntKind.i64 ((↑x_2 : Int) + (1 : Int)) = (↑y : Int) ∧ false :: List.replicate (nat_lit 126) false = List.replicate (127 : Nat) false ∧ false = false ∧
  List.set (rootsTo ((Int.toNat ((↑x : Int) + (1 : Int)) - (1 : Nat)) * (7 : Nat) + x_2)) (Int.toNat (Int.tmod (ishl IntKind.i64 ((↑x : Int) + (1 : Int)) (↑x_2 : Int)) (127 : Int))) true = rootsTo ((Int.toNat ((↑x : Int) +
  (1 : Int)) - (1 : Nat)) * (7 : Nat) + y) ∧ false = false) ∧ y ≤ (7 : Nat) ∧ (7 : Nat) - y < (7 : Nat) - x_2 else ∃ (y : Nat), ((0 : Nat) = (0 : Nat) ∧ (0 : Nat) = (0 : Nat) ∧ IntKind.wrap IntKind.i64 ((↑x : Int) + (1 :
  Int) + (1 : Int)) = (↑y : Int) + (1 : Int) ∧ false :: List.replicate (nat_lit 126) false = List.replicate (127 : Nat) false ∧ false = false ∧ rootsTo ((Int.toNat ((↑x : Int) + (1 : Int)) - (1 : Nat)) * (7 : Nat) + x_2) =
  rootsTo (y * (7 : Nat)) ∧ false = false) ∧ y ≤ (20 : Nat) ∧ (20 : Nat) - y < (20 : Nat) - x else rootsTo (x * (7 : Nat)) = rootsF
theorem vc138 : P138  = vcFun C138 (ann138 ) Go.Proofs.Tryd.f122 [] [] out138 := by kernel_rfl

noncomputable def C111 : Ctx := ⟨Go.Proofs.Tryd.prog, D, G138, (fun _ _ => none), fun _ => []⟩
def ann111  : Nat → St → Option Ann := fun id S => match id with | 0 => some ⟨Nat, [1, 2, 13], [0], fun i => [(14, .v (.int .i64) (i : Int)), (3, .v (.ref .slice) (.slice 2 (.int .i64) [] 0 (genTo i).length))], fun i => [(2, some ⟨false, false, .int .i64, genTo i⟩)], fun i => i ≤ 127, fun i => 127 - i⟩ | _ => some ⟨Nat, [1, 2, 3, 4, 6, 13, 14, 24, 25], [0, 2], fun j => [(26, .v (.int .i64) (j : Int))], fun j => [(3, some ⟨false, false, .int .i64, nextI (genTo (S.i 14).toNat) (ofE (ex (S.i 14).toNat)) j⟩)], fun j => j ≤ (genTo (S.i 14).toNat).length, fun j => (genTo (S.i 14).toNat).length - j⟩
def out111  : COut := ⟨[], .v (.ref .slice) (.slice 0 (.int .i64) [] 0 genF.length), [], [⟨false, false, .int .i64, genF⟩]⟩
def sp111 : Spec := fun args ins => match args, ins with
  | [], [] => some out111
  | _, _ => none
def G111 := addG G138 94 sp111
def P111  : Prop :=
  ∃ (x : Nat), (((0 : Nat) = (0 : Nat) ∧ (0 : Nat) = (0 : Nat) ∧ (0 : Nat) = (0 : Nat) ∧ (1 : Nat) = List.length (genTo x) ∧ rootsF = rootsF ∧ (0 : Int) = (↑x : Int) ∧ Prod.fst fieldT = Prod.fst fieldT ∧ Prod.snd fieldT =
  Prod.snd fieldT ∧ false = false ∧ (1 : Int) :: List.replicate (nat_lit 0) (0 : Int) = genTo x ∧ false = false) ∧ x ≤ (127 : Nat)) ∧ ∀ (x : Nat), x ≤ (127 : Nat) → (IntKind.min IntKind.i64 ≤ (↑x : Int) ∧ (↑x : Int) ≤
  IntKind.max IntKind.i64 ∧ ∀ (y : Int), List.Mem y (genTo x) → IntKind.min IntKind.i64 ≤ y ∧ y ≤ IntKind.max IntKind.i64) → bif decide ((↑x : Int) < (127 : Int)) then ((0 : Int) ≤ (↑x : Int) ∧ (↑x : Int) < (↑(127 : Nat) :
  Int)) ∧ bif !List.getD rootsF (Int.toNat (↑x : Int)) false then ∃ (y : Nat), ((0 : Nat) = (0 : Nat) ∧ (0 : Nat) = (0 : Nat) ∧ (0 : Nat) = (0 : Nat) ∧ List.length (genTo x) = List.length (genTo y) ∧ rootsF = rootsF ∧
  IntKind.wrap IntKind.i64 ((↑x : Int) + (1 : Int)) = (↑y : Int) ∧ Prod.fst fieldT = Prod.fst fieldT ∧ Prod.snd fieldT = Prod.snd fieldT ∧ false = false ∧ genTo x = genTo y ∧ false = false) ∧ y ≤ (127 : Nat) ∧ (127 : Nat) -
  y < (127 : Nat) - x else ((0 : Int) ≤ IntKind.wrap IntKind.i64 ((↑(List.length (genTo x)) : Int) + (1 : Int)) ∧ IntKind.wrap IntKind.i64 ((↑(List.length (genTo x)) : Int) + (1 : Int)) = IntKind.wrap IntKind.i64
  ((↑(List.length (genTo x)) : Int) + (1 : Int)) ∧ IntKind.wrap IntKind.i64 ((↑(List.length (genTo x)) : Int) + (1 : Int)) * (↑(8 : Nat) : Int) ≤ (↑(70368744177664 : Nat) : Int) ∧ IntKind.wrap IntKind.i64 ((↑(List.length
  (genTo x)) : Int) + (1 : Int)) ≤ (↑(70368744177664 : Nat) : Int)) ∧ ∃ (x_1 : Nat), (((0 : Nat) = (0 : Nat) ∧ (0 : Nat) = (0 : Nat) ∧ (0 : Nat) = (0 : Nat) ∧ List.length (genTo x) = List.length (genTo x) ∧ (↑x : Int) = (↑x
  : Int) ∧ (0 : Nat) = (0 : Nat) ∧ Int.toNat (IntKind.wrap IntKind.i64 ((↑(List.length (genTo x)) : Int) + (1 : Int))) = Int.toNat (IntKind.wrap IntKind.i64 ((↑(List.length (genTo x)) : Int) + (1 : Int))) ∧ rootsF = rootsF
  ∧ (↑x : Int) = (↑x : Int) ∧ (0 : Nat) = (0 : Nat) ∧ List.length (genTo x) = List.length (genTo x) ∧ (↑(List.length (genTo x)) : Int) = (↑(List.length (genTo x)) : Int) ∧ (0 : Int) = (↑x_1 : Int) ∧ Prod.fst fieldT =
  Prod.fst fieldT ∧ Prod.snd fieldT = Prod.snd fieldT ∧ false = false ∧ genTo x = genTo x ∧ false = false ∧ List.replicate (Int.toNat (IntKind.wrap IntKind.i64 ((↑(List.length (genTo x)) : Int) + (1 : Int)))) (0 : Int) =
  nextI (genTo (Int.toNat (↑x : Int))) (ofE (ex (Int.toNat (↑x : Int)))) x_1 ∧ false = false) ∧ x_1 ≤ List.length (genTo (Int.toNat (↑x : Int)))) ∧ ∀ (x_2 : Nat), x_2 ≤ List.length (genTo (Int.toNat (↑x : Int))) →
  (IntKind.min IntKind.i64 ≤ (↑x_2 : Int) ∧ (↑x_2 : Int) ≤ IntKind.max IntKind.i64 ∧ ∀ (y : Int), List.Mem y (nextI (genTo (Int.toNat (↑x : Int))) (ofE (ex (Int.toNat (↑x : Int)))) x_2) → IntKind.min IntKind.i64 ≤ y ∧ y ≤
  IntKind.max IntKind.i64) → bif decide ((↑x_2 : Int) < (↑(List.length (genTo x)) : Int)) then (((0 : Int) ≤ (↑x_2 : Int) ∧ (↑x_2 : Int) < (↑(List.length (genTo x)) : Int)) ∧ (0 : Nat) + Int.toNat (↑x_2 : Int) < List.length
  (genTo x)) ∧ (((0 : Int) ≤ IntKind.wrap IntKind.i64 ((↑x_2 : Int) + (1 : Int)) ∧ IntKind.wrap IntKind.i64 ((↑x_2 : Int) + (1 : Int)) < (↑(Int.toNat (IntKind.wrap IntKind.i64 ((↑(List.length (genTo x)) : Int) + (1 :
  Int)))) : Int)) ∧ (0 : Nat) + Int.toNat (IntKind.wrap IntKind.i64 ((↑x_2 : Int) + (1 : Int))) < List.length (nextI (genTo (Int.toNat (↑x : Int))) (ofE (ex (Int.toNat (↑x : Int)))) x_2) ∧ ((0 : Int) ≤ IntKind.wrap
  IntKind.i64 ((↑x_2 : Int) + (1 : Int)) ∧ IntKind.wrap IntKind.i64 ((↑x_2 : Int) + (1 : Int)) < (↑(Int.toNat (IntKind.wrap IntKind.i64 ((↑(List.length (genTo x)) : Int) + (1 : Int)))) : Int)) ∧ (0 : Nat) + Int.toNat
  (IntKind.wrap IntKind.i64 ((↑x_2 : Int) + (1 : Int))) < List.length (nextI (genTo (Int.toNat (↑x : Int))) (ofE (ex (Int.toNat (↑x : Int)))) x_2)) ∧ (((0 : Int) ≤ (↑x_2 : Int) ∧ (↑x_2 : Int) < (↑(Int.toNat (IntKind.wrap
  IntKind.i64 ((↑(List.length (genTo x)) : Int) + (1 : Int)))) : Int)) ∧ (0 : Nat) + Int.toNat (↑x_2 : Int) < List.length (List.set (nextI (genTo (Int.toNat (↑x : Int))) (ofE (ex (Int.toNat (↑x : Int)))) x_2) ((0 : Nat) +
  Int.toNat (IntKind.wrap IntKind.i64 ((↑x_2 : Int) + (1 : Int)))) (ixor IntKind.i64 (List.getD (nextI (genTo (Int.toNat (↑x : Int))) (ofE (ex (Int.toNat (↑x : Int)))) x_2) ((0 : Nat) + Int.toNat (IntKind.wrap IntKind.i64
  ((↑x_2 : Int) + (1 : Int)))) (0 : Int)) (List.getD (genTo x) ((0 : Nat) + Int.toNat (↑x_2 : Int)) (0 : Int)))) ∧ fieldT = fieldT ∧ fieldT = fieldT ∧ ((0 : Int) ≤ (↑x_2 : Int) ∧ (↑x_2 : Int) < (↑(Int.toNat (IntKind.wrap
  IntKind.i64 ((↑(List.length (genTo x)) : Int) + (1 : Int)))) : Int)) ∧ (0 : Nat) + Int.toNat (↑x_2 : Int) < List.length (List.set (nextI (genTo (Int.toNat (↑x : Int))) (ofE (ex (Int.toNat (↑x : Int)))) x_2) ((0 : Nat) +
  Int.toNat (IntKind.wrap IntKind.i64 ((↑x_2 : Int) + (1 : Int)))) (ixor IntKind.i64 (List.getD (nextI (genTo (Int.toNat (↑x : Int))) (ofE (ex (Int.toNat (↑x : Int)))) x_2) ((0 : Nat) + Int.toNat (IntKind.wrap IntKind.i64
  ((↑x_2 : Int) + (1 : Int)))) (0 : Int)) (List.getD (genTo x) ((0 : Nat) + Int.toNat (↑x_2 : Int)) (0 : Int))))) ∧ ∃ (y : Nat), ((0 : Nat) = (0 : Nat) ∧ (0 : Nat) = (0 : Nat) ∧ (0 : Nat) = (0 : Nat) ∧ List.length (genTo x)
  = List.length (genTo x) ∧ (↑x : Int) = (↑x : Int) ∧ (0 : Nat) = (0 : Nat) ∧ Int.toNat (IntKind.wrap IntKind.i64 ((↑(List.length (genTo x)) : Int) + (1 : Int))) = Int.toNat (IntKind.wrap IntKind.i64 ((↑(List.length (genTo
  x)) : Int) + (1 : Int))) ∧ rootsF = rootsF ∧ (↑x : Int) = (↑x : Int) ∧ (0 : Nat) = (0 : Nat) ∧ List.length (genTo x) = List.length (genTo x) ∧ (↑(List.length (genTo x)) : Int) = (↑(List.length (genTo x)) : Int) ∧
  IntKind.wrap IntKind.i64 ((↑x_2 : Int) + (1 : Int)) = (↑y : Int) ∧ Prod.fst fieldT = Prod.fst fieldT ∧ Prod.snd fieldT = Prod.snd fieldT ∧ false = false ∧ genTo x = genTo x ∧ false = false ∧ List.set (List.set (nextI
  (genTo (Int.toNat (↑x : Int))) (ofE (ex (Int.toNat (↑x : Int)))) x_2) ((0 : Nat) + Int.toNat (IntKind.wrap IntKind.i64 ((↑x_2 : Int) + (1 : Int)))) (ixor IntKind.i64 (List.getD (nextI (genTo (Int.toNat (↑x : Int))) (ofE
  (ex (Int.toNat (↑x : Int)))) x_2) ((0 : Nat) + Int.toNat (IntKind.wrap IntKind.i64 ((↑x_2 : Int) + (1 : Int)))) (0 : Int)) (List.getD (genTo x) ((0 : Nat) + Int.toNat (↑x_2 : Int)) (0 : Int)))) ((0 : Nat) + Int.toNat
  (↑x_2 : Int)) (ixor IntKind.i64 (List.getD (List.set (nextI (genTo (Int.toNat (↑x : Int))) (ofE (ex (Int.toNat (↑x : Int)))) x_2) ((0 : Nat) + Int.toNat (IntKind.wrap IntKind.i64 ((↑x_2 : Int) + (1 : Int)))) (ixor
  IntKind.i64 (List.getD (nextI (genTo (Int.toNat (↑x : Int))) (ofE (ex (Int.toNat (↑x : Int)))) x_2) ((0 : Nat) + Int.toNat (IntKind.wrap IntKind.i64 ((↑x_2 : Int) + (1 : Int)))) (0 : Int)) (List.getD (genTo x) ((0 : Nat)
  + Int.toNat (↑x_2 : Int)) (0 : Int)))) ((0 : Nat) + Int.toNat (↑x_2 : Int)) (0 : Int)) (mlI (List.getD (genTo x) ((0 : Nat) + Int.toNat (↑x_2 : Int)) (0 : Int)) (xpI (↑x : Int)))) = nextI (genTo (Int.toNat (↑x : Int)))
  (ofE (ex (Int.toNat (↑x : Int)))) y ∧ false = false) ∧ y ≤ List.length (genTo (Int.toNat (↑x : Int))) ∧ List.length (genTo (Int.toNat (↑x : Int))) - y < List.length (genTo (Int.toNat (↑x : Int))) - x_2 else ∃ (y : Nat),
  ((0 : Nat) = (0 : Nat) ∧ (0 : Nat) = (0 : Nat) ∧ (0 : Nat) = (0 : Nat) ∧ Int.toNat (IntKind.wrap IntKind.i64 ((↑(List.length (genTo x)) : Int) + (1 : Int))) = List.length (genTo y) ∧ rootsF = rootsF ∧ IntKind.wrap
  IntKind.i64 ((↑x : Int) + (1 : Int)) = (↑y : Int) ∧ Prod.fst fieldT = Prod.fst fieldT ∧ Prod.snd fieldT = Prod.snd fieldT ∧ false = false ∧ nextI (genTo (Int.toNat (↑x : Int))) (ofE (ex (Int.toNat (↑x : Int)))) x_2 =
  genTo y ∧ false = false) ∧ y ≤ (127 : Nat) ∧ (127 : Nat) - y < (127 : Nat) - x else (0 : Nat) = (0 : Nat) ∧ List.length (genTo x) = (64 : Nat) ∧ genTo x = genF ∧ false = false
theorem vc111 : P111  = vcFun C111 (ann111 ) Go.Proofs.Tryd.f94 [] [] out111 := by kernel_rfl

noncomputable def C106 : Ctx := ⟨Go.Proofs.Tryd.prog, D, G111, (fun _ _ => none), fun _ => []⟩
def ann106  : Nat → St → Option Ann := fun id S => match id with | 0 => some ⟨Nat, [1], [], fun i => [(3, .v (.int .i64) ((i : Int) + 1)), (2, .v (.ref .slice) (.slice 2 (.int .i64) [] 0 (refG (i * 7)).2.length))], fun i => [(0, some ⟨false, true, .arr 128 .bool, [(refG (i * 7)).1]⟩), (2, some ⟨false, false, .int .i64, (refG (i * 7)).2⟩)], fun i => i ≤ 20, fun i => 20 - i⟩ | _ => some ⟨Nat, [1, 3], [], fun j => [(5, .v (.int .i64) (j : Int)), (4, .v (.int .i64) (ofE (ex ((S.i 3).toNat * 2 ^ j)))), (2, .v (.ref .slice) (.slice 3 (.int .i64) [] 0 (refG (((S.i 3).toNat - 1) * 7 + j)).2.length))], fun j => [(0, some ⟨false, true, .arr 128 .bool, [(refG (((S.i 3).toNat - 1) * 7 + j)).1]⟩), (3, some ⟨false, false, .int .i64, (refG (((S.i 3).toNat - 1) * 7 + j)).2⟩)], fun j => j ≤ 7, fun j => 7 - j⟩
def out106  : COut := ⟨[], .v (.ref .slice) (.slice 0 (.int .i64) [] 0 (refG 140).2.length), [], [⟨false, false, .int .i64, (refG 140).2⟩]⟩
def sp106 : Spec := fun args ins => match args, ins with
  | [], [] => some out106
  | _, _ => none
def G106 := addG G111 77 sp106
def P106  : Prop :=
  ∃ (x : Nat), (((0 : Nat) = (0 : Nat) ∧ (0 : Nat) = (0 : Nat) ∧ (1 : Nat) = List.length (Prod.snd (refG (x * (7 : Nat)))) ∧ (1 : Int) = (↑x : Int) + (1 : Int) ∧ false :: List.replicate (nat_lit 127) false = Prod.fst (refG
  (x * (7 : Nat))) ∧ false = false ∧ (1 : Int) :: List.replicate (nat_lit 0) (0 : Int) = Prod.snd (refG (x * (7 : Nat))) ∧ false = false) ∧ x ≤ (20 : Nat)) ∧ ∀ (x : Nat), x ≤ (20 : Nat) → (IntKind.min IntKind.i64 ≤ (↑x :
  Int) + (1 : Int) ∧ (↑x : Int) + (1 : Int) ≤ IntKind.max IntKind.i64 ∧ (∀ (y : List Bool), List.Mem y [Prod.fst (refG (x * (7 : Nat)))] → List.length y = (128 : Nat) ∧ ∀ (y_1 : Bool), List.Mem y_1 y → True) ∧ ∀ (y : Int),
  List.Mem y (Prod.snd (refG (x * (7 : Nat)))) → IntKind.min IntKind.i64 ≤ y ∧ y ≤ IntKind.max IntKind.i64) → bif decide ((↑x : Int) + (1 : Int) ≤ (20 : Int)) then (↑x : Int) + (1 : Int) ≤ (1000000 : Int) ∧ ∃ (x_1 : Nat),
  (((0 : Nat) = (0 : Nat) ∧ (0 : Nat) = (0 : Nat) ∧ List.length (Prod.snd (refG (x * (7 : Nat)))) = List.length (Prod.snd (refG ((Int.toNat ((↑x : Int) + (1 : Int)) - (1 : Nat)) * (7 : Nat) + x_1))) ∧ (↑x : Int) + (1 : Int)
  = (↑x : Int) + (1 : Int) ∧ powTo (2 : Int) (Int.toNat ((↑x : Int) + (1 : Int))) = ofE (ex (Int.toNat ((↑x : Int) + (1 : Int)) * (2 : Nat) ^ x_1)) ∧ (0 : Int) = (↑x_1 : Int) ∧ Prod.fst (refG (x * (7 : Nat))) = Prod.fst
  (refG ((Int.toNat ((↑x : Int) + (1 : Int)) - (1 : Nat)) * (7 : Nat) + x_1)) ∧ false = false ∧ Prod.snd (refG (x * (7 : Nat))) = Prod.snd (refG ((Int.toNat ((↑x : Int) + (1 : Int)) - (1 : Nat)) * (7 : Nat) + x_1)) ∧ false
  = false) ∧ x_1 ≤ (7 : Nat)) ∧ ∀ (x_2 : Nat), x_2 ≤ (7 : Nat) → (IntKind.min IntKind.i64 ≤ (↑x_2 : Int) ∧ (↑x_2 : Int) ≤ IntKind.max IntKind.i64 ∧ IntKind.min IntKind.i64 ≤ ofE (ex (Int.toNat ((↑x : Int) + (1 : Int)) * (2
  : Nat) ^ x_2)) ∧ ofE (ex (Int.toNat ((↑x : Int) + (1 : Int)) * (2 : Nat) ^ x_2)) ≤ IntKind.max IntKind.i64 ∧ (∀ (y : List Bool), List.Mem y [Prod.fst (refG ((Int.toNat ((↑x : Int) + (1 : Int)) - (1 : Nat)) * (7 : Nat) +
  x_2))] → List.length y = (128 : Nat) ∧ ∀ (y_1 : Bool), List.Mem y_1 y → True) ∧ ∀ (y : Int), List.Mem y (Prod.snd (refG ((Int.toNat ((↑x : Int) + (1 : Int)) - (1 : Nat)) * (7 : Nat) + x_2))) → IntKind.min IntKind.i64 ≤ y
  ∧ y ≤ IntKind.max IntKind.i64) → bif decide ((↑x_2 : Int) < (7 : Int)) then (((0 : Int) ≤ ofE (ex (Int.toNat ((↑x : Int) + (1 : Int)) * (2 : Nat) ^ x_2)) ∧ ofE (ex (Int.toNat ((↑x : Int) + (1 : Int)) * (2 : Nat) ^ x_2)) <
  (↑(128 : Nat) : Int)) ∧ Int.toNat (ofE (ex (Int.toNat ((↑x : Int) + (1 : Int)) * (2 : Nat) ^ x_2))) < (128 : Nat)) ∧ bif !List.getD (Prod.fst (refG ((Int.toNat ((↑x : Int) + (1 : Int)) - (1 : Nat)) * (7 : Nat) + x_2)))
  (Int.toNat (ofE (ex (Int.toNat ((↑x : Int) + (1 : Int)) * (2 : Nat) ^ x_2)))) false then (((0 : Int) ≤ ofE (ex (Int.toNat ((↑x : Int) + (1 : Int)) * (2 : Nat) ^ x_2)) ∧ ofE (ex (Int.toNat ((↑x : Int) + (1 : Int)) * (2 :
  Nat) ^ x_2)) < (↑(128 : Nat) : Int)) ∧ Int.toNat (ofE (ex (Int.toNat ((↑x : Int) + (1 : Int)) * (2 : Nat) ^ x_2))) < (128 : Nat)) ∧ ((List.length (Prod.snd (refG ((Int.toNat ((↑x : Int) + (1 : Int)) - (1 : Nat)) * (7 :
  Nat) + x_2))) = List.length (Prod.snd (refG ((Int.toNat ((↑x : Int) + (1 : Int)) - (1 : Nat)) * (7 : Nat) + x_2))) ∧ List.length (Prod.snd (refG ((Int.toNat ((↑x : Int) + (1 : Int)) - (1 : Nat)) * (7 : Nat) + x_2))) ≤
  (1000 : Nat)) ∧ ∀ (x_3 : Int), List.Mem x_3 (Prod.snd (refG ((Int.toNat ((↑x : Int) + (1 : Int)) - (1 : Nat)) * (7 : Nat) + x_2))) → (0 : Int) ≤ x_3 ∧ x_3 < (128 : Int)) ∧ ∃ (y : Nat), ((0 : Nat) = (0 : Nat) ∧ (0 : Nat) =
  (0 : Nat) ∧ List.length (Prod.snd (refG ((Int.toNat ((↑x : Int) + (1 : Int)) - (1 : Nat)) * (7 : Nat) + x_2))) + (1 : Nat) = List.length (Prod.snd (refG ((Int.toNat ((↑x : Int) + (1 : Int)) - (1 : Nat)) * (7 : Nat) + y)))
  ∧ (↑x : Int) + (1 : Int) = (↑x : Int) + (1 : Int) ∧ mlI (ofE (ex (Int.toNat ((↑x : Int) + (1 : Int)) * (2 : Nat) ^ x_2))) (ofE (ex (Int.toNat ((↑x : Int) + (1 : Int)) * (2 : Nat) ^ x_2))) = ofE (ex (Int.toNat ((↑x : Int)
  + (1 : Int)) * (2 : Nat) ^ y)) ∧ IntKind.wrap IntKind.i64 ((↑x_2 : Int) + (1 : Int)) = (↑y : Int) ∧ List.set (Prod.fst (refG ((Int.toNat ((↑x : Int) + (1 : Int)) - (1 : Nat)) * (7 : Nat) + x_2))) (Int.toNat (ofE (ex
  (Int.toNat ((↑x : Int) + (1 : Int)) * (2 : Nat) ^ x_2)))) true = Prod.fst (refG ((Int.toNat ((↑x : Int) + (1 : Int)) - (1 : Nat)) * (7 : Nat) + y)) ∧ false = false ∧ timesI (Prod.snd (refG ((Int.toNat ((↑x : Int) + (1 :
  Int)) - (1 : Nat)) * (7 : Nat) + x_2))) (ofE (ex (Int.toNat ((↑x : Int) + (1 : Int)) * (2 : Nat) ^ x_2))) = Prod.snd (refG ((Int.toNat ((↑x : Int) + (1 : Int)) - (1 : Nat)) * (7 : Nat) + y)) ∧ false = false) ∧ y ≤ (7 :
  Nat) ∧ (7 : Nat) - y < (7 : Nat) - x_2 else ∃ (y : Nat), ((0 : Nat) = (0 : Nat) ∧ (0 : Nat) = (0 : Nat) ∧ List.length (Prod.snd (refG ((Int.toNat ((↑x : Int) + (1 : Int)) - (1 : Nat)) * (7 : Nat) + x_2))) = List.length
  (Prod.snd (refG ((Int.toNat ((↑x : Int) + (1 : Int)) - (1 : Nat)) * (7 : Nat) + y))) ∧ (↑x : Int) + (1 : Int) = (↑x : Int) + (1 : Int) ∧ mlI (ofE (ex (Int.toNat ((↑x : Int) + (1 : Int)) * (2 : Nat) ^ x_2))) (ofE (ex
  (Int.toNat ((↑x : Int) + (1 : Int)) * (2 : Nat) ^ x_2))) = ofE (ex (Int.toNat ((↑x : Int) + (1 : Int)) * (2 : Nat) ^ y)) ∧ IntKind.wrap IntKind.i64 ((↑x_2 : Int) + (1 : Int)) = (↑y : Int) ∧ Prod.fst (refG ((Int.toNat ((↑x
  : Int) + (1 : Int)) - (1 : Nat)) * (7 : Nat) + x_2)) = Prod.fst (refG ((Int.toNat ((↑x : Int) + (1 : Int)) - (1 : Nat)) * (7 : Nat) + y)) ∧ false = false ∧ Prod.snd (refG ((Int.toNat ((↑x : Int) + (1 : Int)) - (1 : Nat))
  * (7 : Nat) + x_2)) = Prod.snd (refG ((Int.toNat ((↑x : Int) + (1 : Int)) - (1 : Nat)) * (7 : Nat) + y)) ∧ false = false) ∧ y ≤ (7 : Nat) ∧ (7 : Nat) - y < (7 : Nat) - x_2 else ∃ (y : Nat), ((0 : Nat) = (0 : Nat) ∧ (0 :
  Nat) = (0 : Nat) ∧ List.length (Prod.snd (refG ((Int.toNat ((↑x : Int) + (1 : Int)) - (1 : Nat)) * (7 : Nat) + x_2))) = List.length (Prod.snd (refG (y * (7 : Nat)))) ∧ IntKind.wrap IntKind.i64 ((↑x : Int) + (1 : Int) + (1
  : Int)) = (↑y : Int) + (1 : Int) ∧ Prod.fst (refG ((Int.toNat ((↑x : Int) + (1 : Int)) - (1 : Nat)) * (7 : Nat) + x_2)) = Prod.fst (refG (y * (7 : Nat))) ∧ false = false ∧ Prod.snd (refG ((Int.toNat ((↑x : Int) + (1 :
  Int)) - (1 : Nat)) * (7 : Nat) + x_2)) = Prod.snd (refG (y * (7 : Nat))) ∧ false = false) ∧ y ≤ (20 : Nat) ∧ (20 : Nat) - y < (20 : Nat) - x else (0 : Nat) = (0 : Nat) ∧ List.length (Prod.snd (refG (x * (7 : Nat)))) = (64
  : Nat) ∧ Prod.snd (refG (x * (7 : Nat))) = Prod.snd (refG (140 : Nat)) ∧ false = false
theorem vc106 : P106  = vcFun C106 (ann106 ) Go.Proofs.Tryd.f77 [] [] out106 := by kernel_rfl

end Go.SL.A

/- Generators. -/
namespace Go.SL.A
open Go Go.SL Go.SL.S
set_option maxRecDepth 100000

def fullE (p : List E) (a : E) (j : Nat) : E := (if j = 0 then 0 else p.getD (j - 1) 0) ^^^ ml (p.getD j 0) a
def partE (p : List E) (a : E) (i j : Nat) : E := if j < i then fullE p a j else if j = i ∧ 0 < i then p.getD (j - 1) 0 else 0
theorem nextE_at (p : List E) (a : E) (i : Nat) {j : Nat} (h : j < p.length + 1) : (nextE p a i)[j]? = some (partE p a i j) := by
  unfold nextE; rw [List.getElem?_map, List.getElem?_range h]; rfl
theorem nextE_len (p : List E) (a : E) (i : Nat) : (nextE p a i).length = p.length + 1 := by simp [nextE]
theorem timesE_at (p : List E) (a : E) {j : Nat} (h : j < p.length + 1) : (timesE p a)[j]? = some (fullE p a j) := by
  unfold timesE; rw [List.getElem?_map, List.getElem?_range h]; rfl
theorem timesE_len (p : List E) (a : E) : (timesE p a).length = p.length + 1 := by simp [timesE]
theorem nextE_end (p : List E) (a : E) : nextE p a p.length = timesE p a := by
  refine List.ext_getElem? fun j => ?_
  by_cases h : j < p.length + 1
  · rw [nextE_at p a _ h, timesE_at p a h]
    congr 1
    unfold partE
    by_cases h1 : j < p.length
    · rw [if_pos h1]
    · have : j = p.length := by omega
      subst this
      rw [if_neg h1]
      have e : p.getD p.length 0 = 0 := by rw [List.getD_eq_getElem?_getD, List.getElem?_eq_none (Nat.le_refl _)]; rfl
      unfold fullE
      rw [e, zero_ml, xz]
      by_cases h0 : p.length = 0
      · rw [if_neg (by omega), if_pos h0]
      · rw [if_pos (by omega), if_neg h0]
  · rw [List.getElem?_eq_none (by rw [nextE_len]; omega), List.getElem?_eq_none (by rw [timesE_len]; omega)]

theorem nextI_len (p : List Int) (a : Int) (i : Nat) : (nextI p a i).length = p.length + 1 := by simp [nextI, nextE_len]
theorem timesI_len (p : List Int) (a : Int) : (timesI p a).length = p.length + 1 := by simp [timesI, timesE_len]
theorem nextI_at (p : List Int) (a : Int) (i : Nat) {j : Nat} (h : j < p.length + 1) : (nextI p a i)[j]? = some (ofE (partE (p.map toE) (toE a) i j)) := by
  unfold nextI; rw [List.getElem?_map, nextE_at _ _ _ (by simpa using h)]; rfl
theorem nextI_getD (p : List Int) (a : Int) (i : Nat) {j : Nat} (h : j < p.length + 1) : (nextI p a i).getD j 0 = ofE (partE (p.map toE) (toE a) i j) := by
  rw [List.getD_eq_getElem?_getD, nextI_at p a i h]; rfl
theorem nextI_end (p : List Int) (a : Int) : nextI p a p.length = timesI p a := by
  unfold nextI timesI
  have := nextE_end (p.map toE) (toE a)
  rw [List.length_map] at this
  rw [this]
theorem nextI_zero (p : List Int) (a : Int) : List.replicate (p.length + 1) 0 = nextI p a 0 := by
  refine List.ext_getElem? fun j => ?_
  by_cases h : j < p.length + 1
  · rw [List.getElem?_replicate, if_pos h, nextI_at p a 0 h]
    unfold partE
    rw [if_neg (by omega), if_neg (by omega)]; rfl
  · rw [List.getElem?_eq_none (by rw [List.length_replicate]; omega), List.getElem?_eq_none (by rw [nextI_len]; omega)]

theorem ofE_zero : ofE 0 = 0 := rfl
theorem map_toE_getD {p : List Int} {i : Nat} (h : i < p.length) : (p.map toE).getD i 0 = toE (p.getD i 0) := by
  simp only [List.getD_eq_getElem?_getD, List.getElem?_map, List.getElem?_eq_getElem h]; rfl

theorem next_step {p : List Int} {a x : Int} {i : Nat} (hi : i < p.length) (hx : p.getD i 0 = x) (hr : 0 ≤ x ∧ x < 128) :
    let c := List.set (nextI p a i) (i + 1) (ixor .i64 ((nextI p a i).getD (i + 1) 0) x)
    List.set c i (ixor .i64 (c.getD i 0) (mlI x a)) = nextI p a (i + 1) := by
  intro c
  have e1 : ixor .i64 ((nextI p a i).getD (i + 1) 0) x = x := by
    rw [nextI_getD p a i (by omega)]
    have : partE (p.map toE) (toE a) i (i + 1) = 0 := by unfold partE; rw [if_neg (by omega), if_neg (by omega)]
    rw [this]
    have := ixor_ofE 0 (toE x)
    rw [ofE_toE hr, zx, ofE_toE hr] at this
    exact this
  have hc : c = List.set (nextI p a i) (i + 1) x := by simp only [c, e1]
  have e2 : c.getD i 0 = ofE (partE (p.map toE) (toE a) i i) := by
    rw [hc, List.getD_eq_getElem?_getD, List.getElem?_set, if_neg (by omega), nextI_at p a i (by omega)]; rfl
  have hxe : (p.map toE).getD i 0 = toE x := by rw [map_toE_getD hi, hx]
  have e3 : ixor .i64 (c.getD i 0) (mlI x a) = ofE (fullE (p.map toE) (toE a) i) := by
    rw [e2]
    unfold mlI
    rw [ixor_ofE]
    congr 1
    unfold partE fullE
    rw [hxe, if_neg (by omega)]
    by_cases h0 : i = 0
    · rw [if_pos h0, if_neg (by omega)]
    · rw [if_neg h0, if_pos (by omega)]
  rw [e3, hc]
  refine List.ext_getElem? fun j => ?_
  by_cases h : j < p.length + 1
  · rw [nextI_at p a (i + 1) h, List.getElem?_set, List.getElem?_set]
    have hl1 : i < (List.set (nextI p a i) (i + 1) x).length := by rw [List.length_set, nextI_len]; omega
    have hl2 : i + 1 < (nextI p a i).length := by rw [nextI_len]; omega
    by_cases h1 : i = j
    · subst h1
      rw [if_pos rfl, if_pos hl1]
      unfold partE; rw [if_pos (by omega)]
    · rw [if_neg h1]
      by_cases h2 : i + 1 = j
      · subst h2
        rw [if_pos rfl, if_pos hl2]
        unfold partE; rw [if_neg (by omega), if_pos (by omega), Nat.add_sub_cancel, hxe, ofE_toE hr]
      · rw [if_neg h2, nextI_at p a i h]
        unfold partE
        by_cases h3 : j < i
        · rw [if_pos h3, if_pos (by omega)]
        · rw [if_neg h3, if_neg (by omega), if_neg (by omega), if_neg (by omega)]
  · rw [List.getElem?_eq_none (by rw [List.length_set, List.length_set, nextI_len]; omega), List.getElem?_eq_none (by rw [nextI_len]; omega)]

theorem pure135 (n : Nat) (p : List Int) (a : Int) (hn : (n = p.length ∧ n ≤ 1000) ∧ ∀ x ∈ p, 0 ≤ x ∧ x < 128) : P135 n p a := by
  obtain ⟨⟨h1, h2⟩, h3⟩ := hn
  unfold P135
  have hL : ∀ i, (nextI p a i).length = n + 1 := fun i => by rw [nextI_len, h1]
  simp only [eq_self, true_and, and_true, Int.toNat_natCast, Nat.zero_add]
  rw [w64 (n := (n : Int) + 1) (by omega) (by omega)]
  have en : ((n : Int) + 1).toNat = n + 1 := by omega
  rw [en]
  refine ⟨⟨by omega, by omega, by omega⟩, 0, ⟨⟨rfl, by rw [h1]; exact nextI_zero p a⟩, by omega⟩, fun i hi _ => ?_⟩
  by_cases h : (i : Int) < (n : Int)
  · rw [decide_eq_true h, cond_true, w64 (n := (i : Int) + 1) (by omega) (by omega)]
    have ei : ((i : Int) + 1).toNat = i + 1 := by omega
    rw [ei]
    have hx := h3 _ (getD_mem (d := 0) (show i < p.length by omega))
    have st := next_step (a := a) (show i < p.length by omega) rfl hx
    refine ⟨⟨⟨by first | omega | trivial, by first | omega | trivial⟩, by rw [hL]; omega, ⟨by first | omega | trivial, by first | omega | trivial⟩, by omega, ⟨by first | omega | trivial, by first | omega | trivial⟩, by rw [hL]; omega⟩, ⟨⟨by first | omega | trivial, by first | omega | trivial⟩, by rw [List.length_set, hL]; omega, ⟨by first | omega | trivial, by first | omega | trivial⟩, by omega, ⟨by first | omega | trivial, by first | omega | trivial⟩, by rw [List.length_set, hL]; omega⟩, i + 1, ⟨by first | omega | trivial, st⟩, by omega, by omega⟩
  · have : i = n := by omega
    subst this
    rw [decide_eq_false h, cond_false]
    subst h1
    exact ⟨rfl, nextI_end p a⟩


theorem ishl7 {i j : Nat} (hi : i ≤ 20) (hj : j < 7) : ishl .i64 ((i : Int) + 1) (j : Int) = (((i + 1) * 2 ^ j : Nat) : Int) ∧ (i + 1) * 2 ^ j ≤ 21 * 64 := by
  have all : ((List.range 21).all fun i : Nat => (List.range 7).all fun j : Nat => decide (ishl .i64 ((i : Int) + 1) (j : Int) = (((i + 1) * 2 ^ j : Nat) : Int) ∧ (i + 1) * 2 ^ j ≤ 21 * 64)) = true := by decide +kernel
  exact of_decide_eq_true (List.all_eq_true.1 (List.all_eq_true.1 all i (List.mem_range.2 (by omega))) j (List.mem_range.2 hj))

theorem rootsTo_step {i j : Nat} (hj : j < 7) : rootsTo (i * 7 + (j + 1)) = (rootsTo (i * 7 + j)).set ((i + 1) * 2 ^ j % 127) true := by
  rw [show i * 7 + (j + 1) = (i * 7 + j) + 1 by omega, rootsTo, show (i * 7 + j) / 7 = i by omega, show (i * 7 + j) % 7 = j by omega]

theorem pure138 : P138 := by
  unfold P138
  have z : false :: List.replicate 126 false = rootsTo 0 := rfl
  have z2 : false :: List.replicate 126 false = List.replicate 127 false := rfl
  simp only [eq_self, true_and, and_true, Int.toNat_natCast, z2]
  refine ⟨0, ⟨⟨rfl, rfl⟩, by omega⟩, fun i hi _ => ?_⟩
  have ei : ((i : Int) + 1).toNat - 1 = i := by omega
  rw [ei]
  by_cases h : (i : Int) + 1 ≤ 20
  · rw [decide_eq_true h, cond_true]
    refine ⟨0, ⟨⟨rfl, rfl⟩, by omega⟩, fun j hj _ => ?_⟩
    by_cases h2 : (j : Int) < 7
    · obtain ⟨s1, s2⟩ := ishl7 (i := i) (j := j) (by omega) (by omega)
      rw [decide_eq_true h2, cond_true, s1]
      generalize hk : (i + 1) * 2 ^ j = k at *
      have d := tdm (k : Int) (k := 127) (by decide)
      have e : ((k : Int).tmod 127).toNat = k % 127 := by omega
      rw [e]
      refine ⟨⟨by omega, by decide, ⟨by omega, by omega⟩, by omega⟩, j + 1, ⟨step_i (by omega), ?_⟩, by omega, by omega⟩
      rw [rootsTo_step (by omega), hk]
    · have : j = 7 := by omega
      subst this
      rw [decide_eq_false h2, cond_false]
      refine ⟨i + 1, ⟨by rw [w64 (by omega) (by omega)]; omega, ?_⟩, by omega, by omega⟩
      rw [show i * 7 + 7 = (i + 1) * 7 by omega]
  · have : i = 20 := by omega
    subst this
    rw [decide_eq_false h, cond_false]
    rfl

theorem timesI_rng (p : List Int) (a : Int) : ∀ x ∈ timesI p a, 0 ≤ x ∧ x < 128 := by
  intro x hx
  unfold timesI at hx
  obtain ⟨e, -, rfl⟩ := List.mem_map.1 hx
  exact ofE_fit e
theorem genTo_ok : ∀ n, (∀ x ∈ genTo n, 0 ≤ x ∧ x < 128) ∧ (genTo n).length ≤ n + 1
  | 0 => by simp [genTo]
  | n + 1 => by
    obtain ⟨h1, h2⟩ := genTo_ok n
    rw [genTo]
    split
    · exact ⟨timesI_rng _ _, by rw [timesI_len]; omega⟩
    · exact ⟨h1, by omega⟩
theorem xpI_ex (i : Nat) : xpI (i : Int) = ofE (ex i) := by
  unfold xpI
  rw [show ((i : Int) % 127).toNat = i % 127 by omega, ex_mod]

theorem genF_len : genF.length = 64 := by decide +kernel

theorem pure111 : P111 := by
  unfold P111
  simp only [eq_self, true_and, and_true, Int.toNat_natCast, Nat.zero_add]
  refine ⟨0, ⟨⟨rfl, rfl, rfl⟩, by omega⟩, fun i hi _ => ?_⟩
  obtain ⟨gr, gl⟩ := genTo_ok i
  by_cases h : (i : Int) < 127
  · rw [decide_eq_true h, cond_true]
    have hb : rootsF.getD i false = bw rootsF i := rfl
    rw [hb]
    have hs : genTo (i + 1) = if bw rootsF i then timesI (genTo i) (ofE (ex i)) else genTo i := rfl
    refine ⟨⟨by omega, by omega⟩, ?_⟩
    cases hc : bw rootsF i with
    | false =>
      rw [hc, if_neg (by simp)] at hs
      rw [Bool.not_false, cond_true]
      exact ⟨i + 1, ⟨by rw [hs], step_i (by omega), hs.symm⟩, by omega, by omega⟩
    | true =>
      rw [hc, if_pos rfl] at hs
      rw [Bool.not_true, cond_false, xpI_ex]
      generalize ofE (ex i) = a at *
      generalize hp : genTo i = p at *
      have hL : ∀ i, (nextI p a i).length = p.length + 1 := fun i => nextI_len p a i
      have en : ((p.length : Int) + 1).toNat = p.length + 1 := by omega
      rw [w64 (n := (p.length : Int) + 1) (by omega) (by omega), en]
      refine ⟨⟨by omega, by omega, by omega⟩, 0, ⟨⟨rfl, nextI_zero p a⟩, by omega⟩, fun j hj _ => ?_⟩
      by_cases h2 : (j : Int) < (p.length : Int)
      · have ej : ((j : Int) + 1).toNat = j + 1 := by omega
        rw [decide_eq_true h2, cond_true, w64 (n := (j : Int) + 1) (by omega) (by omega), ej]
        have hx := gr _ (getD_mem (d := 0) (show j < p.length by omega))
        have st := next_step (a := a) (show j < p.length by omega) rfl hx
        refine ⟨⟨⟨by first | omega | trivial, by first | omega | trivial⟩, by omega⟩, ⟨⟨by first | omega | trivial, by first | omega | trivial⟩, by rw [hL]; omega, ⟨by first | omega | trivial, by first | omega | trivial⟩, by rw [hL]; omega⟩, ⟨⟨by first | omega | trivial, by first | omega | trivial⟩, by rw [List.length_set, hL]; omega, ⟨by first | omega | trivial, by first | omega | trivial⟩, by rw [List.length_set, hL]; omega⟩, j + 1, ⟨by first | omega | trivial, st⟩, by omega, by omega⟩
      · have : j = p.length := by omega
        subst this
        rw [decide_eq_false h2, cond_false]
        refine ⟨i + 1, ⟨?_, step_i (by omega), ?_⟩, by omega, by omega⟩
        · rw [hs, timesI_len]
        · rw [hs]; exact nextI_end p a
  · have : i = 127 := by omega
    subst this
    rw [decide_eq_false h, cond_false]
    exact ⟨genF_len, rfl⟩

theorem pow2 : ∀ n, powTo 2 n = ofE (ex n)
  | 0 => rfl
  | n + 1 => by
    rw [powTo, pow2 n]
    unfold mlI
    rw [toE_ofE, show toE 2 = ex 1 from rfl, ml_exex]
theorem sq_ex (k : Nat) : mlI (ofE (ex k)) (ofE (ex k)) = ofE (ex (k + k)) := by
  unfold mlI; rw [toE_ofE, ml_exex]
theorem refG_ok : ∀ k, (∀ x ∈ (refG k).2, 0 ≤ x ∧ x < 128) ∧ (refG k).2.length ≤ k + 1
  | 0 => by simp [refG]
  | k + 1 => by
    obtain ⟨h1, h2⟩ := refG_ok k
    rw [refG]
    split
    · exact ⟨h1, by omega⟩
    · exact ⟨timesI_rng _ _, by rw [timesI_len]; omega⟩
theorem refG_step {i j : Nat} (hj : j < 7) : refG (i * 7 + (j + 1)) = if bw (refG (i * 7 + j)).1 (ofE (ex ((i + 1) * 2 ^ j))).toNat then refG (i * 7 + j) else ((refG (i * 7 + j)).1.set (ofE (ex ((i + 1) * 2 ^ j))).toNat true, timesI (refG (i * 7 + j)).2 (ofE (ex ((i + 1) * 2 ^ j)))) := by
  have : rootA (i * 7 + j) = ofE (ex ((i + 1) * 2 ^ j)) := by unfold rootA; rw [show (i * 7 + j) / 7 = i by omega, show (i * 7 + j) % 7 = j by omega]
  rw [show i * 7 + (j + 1) = (i * 7 + j) + 1 by omega, refG, this]
theorem refG_len : (refG 140).2.length = 64 := by decide +kernel

theorem pure106 : P106 := by
  unfold P106
  have z : false :: List.replicate 127 false = (refG 0).1 := rfl
  have z2 : 1 :: List.replicate 0 (0 : Int) = (refG 0).2 := rfl
  simp only [eq_self, true_and, and_true, Int.toNat_natCast]
  refine ⟨0, ⟨⟨rfl, rfl, z, z2⟩, by omega⟩, fun i hi _ => ?_⟩
  have ei : ((i : Int) + 1).toNat = i + 1 := by omega
  rw [ei, Nat.add_sub_cancel]
  by_cases h : (i : Int) + 1 ≤ 20
  · rw [decide_eq_true h, cond_true]
    refine ⟨by omega, 0, ⟨⟨rfl, by rw [pow2, Nat.pow_zero, Nat.mul_one], rfl, rfl, rfl⟩, by omega⟩, fun j hj _ => ?_⟩
    by_cases h2 : (j : Int) < 7
    · rw [decide_eq_true h2, cond_true]
      have hs := refG_step (i := i) (j := j) (by omega)
      obtain ⟨o1, o2⟩ := refG_ok (i * 7 + j)
      have ed : (i + 1) * 2 ^ (j + 1) = (i + 1) * 2 ^ j + (i + 1) * 2 ^ j := by rw [Nat.pow_succ, ← Nat.mul_assoc]; omega
      have hq := sq_ex ((i + 1) * 2 ^ j)
      rw [← ed] at hq
      have hf := ofE_fit (ex ((i + 1) * 2 ^ j))
      rw [hq]
      generalize ofE (ex ((i + 1) * 2 ^ j)) = a at *
      generalize refG (i * 7 + j) = G at *
      have hb : G.1.getD a.toNat false = bw G.1 a.toNat := rfl
      rw [hb]
      refine ⟨⟨⟨by omega, by omega⟩, by omega⟩, ?_⟩
      cases hc : bw G.1 a.toNat with
      | true =>
        rw [hc, if_pos rfl] at hs
        rw [Bool.not_true, cond_false]
        exact ⟨j + 1, ⟨by rw [hs], rfl, step_i (by omega), by rw [hs], by rw [hs]⟩, by omega, by omega⟩
      | false =>
        rw [hc, if_neg (by simp)] at hs
        rw [Bool.not_false, cond_true]
        exact ⟨⟨⟨by omega, by omega⟩, by omega⟩, ⟨by omega, o1⟩, j + 1, ⟨by rw [hs, timesI_len], rfl, step_i (by omega), by rw [hs], by rw [hs]⟩, by omega, by omega⟩
    · have : j = 7 := by omega
      subst this
      rw [decide_eq_false h2, cond_false]
      have e7 : i * 7 + 7 = (i + 1) * 7 := by omega
      exact ⟨i + 1, ⟨by rw [e7], by rw [w64 (by omega) (by omega)]; omega, by rw [e7], by rw [e7]⟩, by omega, by omega⟩
  · have : i = 20 := by omega
    subst this
    rw [decide_eq_false h, cond_false]
    exact ⟨refG_len, rfl⟩

end Go.SL.A

/- Functions do what they are held to do. -/
namespace Go.SL.A
open Go Go.SL Go.SL.S
theorem snd135 : Sound Go.Proofs.Tryd.prog G135 := snd70.add ⟨_, Go.Proofs.Tryd.func100, by kernel_rfl, by kernel_rfl⟩ (by
  intro args ins out h hp
  unfold sp135 at h
  split at h
  · rename_i n a p
    cases h
    exact vcFun_ok (C := C135) good snd70 Meth.none mix Go.Proofs.Tryd.func100 (ann135 n p a) (fun hw => by rw [← vc135 n p a]; exact pure135 n p a hp)
  · cases h)

theorem snd138 : Sound Go.Proofs.Tryd.prog G138 := snd135.add ⟨_, Go.Proofs.Tryd.func122, by kernel_rfl, by kernel_rfl⟩ (by
  intro args ins out h hp
  unfold sp138 at h
  split at h
  · cases h
    exact vcFun_ok (C := C138) good snd135 Meth.none mix Go.Proofs.Tryd.func122 (ann138 ) (fun hw => by rw [← vc138 ]; exact pure138)
  · cases h)

theorem snd111 : Sound Go.Proofs.Tryd.prog G111 := snd138.add ⟨_, Go.Proofs.Tryd.func94, by kernel_rfl, by kernel_rfl⟩ (by
  intro args ins out h hp
  unfold sp111 at h
  split at h
  · cases h
    exact vcFun_ok (C := C111) good snd138 Meth.none mix Go.Proofs.Tryd.func94 (ann111 ) (fun hw => by rw [← vc111 ]; exact pure111)
  · cases h)

theorem snd106 : Sound Go.Proofs.Tryd.prog G106 := snd111.add ⟨_, Go.Proofs.Tryd.func77, by kernel_rfl, by kernel_rfl⟩ (by
  intro args ins out h hp
  unfold sp106 at h
  split at h
  · cases h
    exact vcFun_ok (C := C106) good snd111 Meth.none mix Go.Proofs.Tryd.func77 (ann106 ) (fun hw => by rw [← vc106 ]; exact pure106)
  · cases h)

end Go.SL.A

/- Generators: plain facts. -/
namespace Go.SL.A
open Go Go.SL Go.SL.S
set_option maxRecDepth 100000

/-- Both generators are the same. -/
theorem gen_same : (refG 140).2 = genF := by decide +kernel
/-- Bits, of which the last is 1. -/
theorem gen_bits : (genF.all fun x => decide (x = 0) || decide (x = 1)) = true := by decide +kernel
theorem gen_last : genF.getD 63 0 = 1 := by decide +kernel
/-- It is 0 at twenty powers. -/
theorem gen_zero : ((List.range 20).all fun j => decide (evl (genF.map toE) (ex (j + 1)) = 0)) = true := by decide +kernel
end Go.SL.A

/- Codewords: plain functions. -/
namespace Go.SL.S
open Go Go.SL
def bitX (x : Int) (j : Nat) : Bool := decide (x / 2 ^ j % 2 = 1)
def encTo (x : Int) (i : Nat) : List Bool := (List.range 127).map fun k => decide (63 ≤ k ∧ k < 63 + i) && bitX x (k - 63)
def encW (x : Int) : List Bool := encTo x 64
def genB (k : Nat) : Bool := decide (genF.getD k 0 = 1)
def xorP (r : List Bool) (s n : Nat) : List Bool := (List.range 127).map fun k => if s ≤ k ∧ k < s + n then bw r k != genB (k - s) else bw r k
def divTo (x : Int) : Nat → List Bool
  | 0 => encW x
  | n + 1 => if bw (divTo x n) (126 - n) then xorP (divTo x n) (63 - n) 64 else divTo x n
def encF (x : Int) : List Bool := (divTo x 64).take 63 ++ (encW x).drop 63
def numB (w : List Bool) : List Int := w.map fun b => if b then 1 else 0
end Go.SL.S

/- Functions and what they are held to do: bound to their code. -/
namespace Go.SL.A
open Go Go.SL Go.SL.S
set_option maxRecDepth 100000
noncomputable def C75 : Ctx := ⟨Go.Proofs.Tryd.prog, D, G106, (fun _ _ => none), fun _ => []⟩
def ann75 (x : Int) : Nat → St → Option Ann := fun id S => match id with | 0 => some ⟨Nat, [0, 2, 3, 4, 5], [0, 1, 3], fun i => [(11, .v (.int .i64) (i : Int))], fun i => [(2, some ⟨false, true, .arr 127 .bool, [encTo x i]⟩)], fun i => i ≤ 64, fun i => 64 - i⟩ | 2 => some ⟨Nat, [2, 3, 4, 5], [0, 1, 2], fun n => [(7, .v (.int .i64) (126 - (n : Int)))], fun n => [(3, some ⟨false, true, .arr 127 .bool, [divTo x n]⟩)], fun n => n ≤ 64, fun n => 64 - n⟩ | _ => some ⟨Nat, [2, 3, 4, 5, 7, 32, 33], [0, 1, 2], fun k => [(34, .v (.int .i64) (k : Int))], fun k => [(3, some ⟨false, true, .arr 127 .bool, [xorP (divTo x (126 - (S.i 7).toNat)) ((S.i 7).toNat - 63) k]⟩)], fun k => k ≤ 64, fun k => 64 - k⟩
def out75 (x : Int) : COut := ⟨[], .v (.arr 127 .bool) (encF x), [], []⟩
def sp75 : Spec := fun args ins => match args, ins with
  | [⟨.int .u64, x⟩], [] => some (out75 x)
  | _, _ => none
def G75 := addG G106 75 sp75
def P75 (x : Int) : Prop :=
  ∃ (x_1 : Nat), ((x = x ∧ (0 : Nat) = (0 : Nat) ∧ (0 : Nat) = (0 : Nat) ∧ (64 : Nat) = (64 : Nat) ∧ (0 : Nat) = (0 : Nat) ∧ (0 : Nat) = (0 : Nat) ∧ (0 : Int) = (↑x_1 : Int) ∧ false :: List.replicate (nat_lit 126) false =
  List.replicate (127 : Nat) false ∧ false = false ∧ genF = genF ∧ false = false ∧ false :: List.replicate (nat_lit 126) false = encTo x x_1 ∧ false = false ∧ false :: List.replicate (nat_lit 126) false = List.replicate
  (127 : Nat) false ∧ false = false) ∧ x_1 ≤ (64 : Nat)) ∧ ∀ (x_2 : Nat), x_2 ≤ (64 : Nat) → (IntKind.min IntKind.i64 ≤ (↑x_2 : Int) ∧ (↑x_2 : Int) ≤ IntKind.max IntKind.i64 ∧ ∀ (y : List Bool), List.Mem y [encTo x x_2] →
  List.length y = (127 : Nat) ∧ ∀ (y_1 : Bool), List.Mem y_1 y → True) → bif decide ((↑x_2 : Int) < (64 : Int)) then ((0 : Int) ≤ (↑x_2 : Int) ∧ ((0 : Int) ≤ IntKind.wrap IntKind.i64 ((63 : Int) + (↑x_2 : Int)) ∧
  IntKind.wrap IntKind.i64 ((63 : Int) + (↑x_2 : Int)) < (↑(127 : Nat) : Int)) ∧ Int.toNat (IntKind.wrap IntKind.i64 ((63 : Int) + (↑x_2 : Int))) < (127 : Nat)) ∧ ∃ (y : Nat), (x = x ∧ (0 : Nat) = (0 : Nat) ∧ (0 : Nat) = (0
  : Nat) ∧ (64 : Nat) = (64 : Nat) ∧ (0 : Nat) = (0 : Nat) ∧ (0 : Nat) = (0 : Nat) ∧ IntKind.wrap IntKind.i64 ((↑x_2 : Int) + (1 : Int)) = (↑y : Int) ∧ false :: List.replicate (nat_lit 126) false = List.replicate (127 :
  Nat) false ∧ false = false ∧ genF = genF ∧ false = false ∧ List.set (encTo x x_2) (Int.toNat (IntKind.wrap IntKind.i64 ((63 : Int) + (↑x_2 : Int)))) (decide (iand IntKind.u64 (ishr IntKind.u64 x (↑x_2 : Int)) (1 : Int) =
  (1 : Int))) = encTo x y ∧ false = false ∧ false :: List.replicate (nat_lit 126) false = List.replicate (127 : Nat) false ∧ false = false) ∧ y ≤ (64 : Nat) ∧ (64 : Nat) - y < (64 : Nat) - x_2 else ∃ (x_3 : Nat), (((0 :
  Nat) = (0 : Nat) ∧ (0 : Nat) = (0 : Nat) ∧ (64 : Nat) = (64 : Nat) ∧ (0 : Nat) = (0 : Nat) ∧ (0 : Nat) = (0 : Nat) ∧ (126 : Int) = (126 : Int) - (↑x_3 : Int) ∧ false :: List.replicate (nat_lit 126) false = List.replicate
  (127 : Nat) false ∧ false = false ∧ genF = genF ∧ false = false ∧ encTo x x_2 = encTo x x_2 ∧ false = false ∧ encTo x x_2 = divTo x x_3 ∧ false = false) ∧ x_3 ≤ (64 : Nat)) ∧ ∀ (x_4 : Nat), x_4 ≤ (64 : Nat) → (IntKind.min
  IntKind.i64 ≤ (126 : Int) - (↑x_4 : Int) ∧ (126 : Int) - (↑x_4 : Int) ≤ IntKind.max IntKind.i64 ∧ ∀ (y : List Bool), List.Mem y [divTo x x_4] → List.length y = (127 : Nat) ∧ ∀ (y_1 : Bool), List.Mem y_1 y → True) → bif
  decide ((63 : Int) ≤ (126 : Int) - (↑x_4 : Int)) then (((0 : Int) ≤ (126 : Int) - (↑x_4 : Int) ∧ (126 : Int) - (↑x_4 : Int) < (↑(127 : Nat) : Int)) ∧ Int.toNat ((126 : Int) - (↑x_4 : Int)) < (127 : Nat)) ∧ bif !List.getD
  (divTo x x_4) (Int.toNat ((126 : Int) - (↑x_4 : Int))) false then ∃ (y : Nat), ((0 : Nat) = (0 : Nat) ∧ (0 : Nat) = (0 : Nat) ∧ (64 : Nat) = (64 : Nat) ∧ (0 : Nat) = (0 : Nat) ∧ (0 : Nat) = (0 : Nat) ∧ IntKind.wrap
  IntKind.i64 ((126 : Int) - (↑x_4 : Int) - (1 : Int)) = (126 : Int) - (↑y : Int) ∧ false :: List.replicate (nat_lit 126) false = List.replicate (127 : Nat) false ∧ false = false ∧ genF = genF ∧ false = false ∧ encTo x x_2
  = encTo x x_2 ∧ false = false ∧ divTo x x_4 = divTo x y ∧ false = false) ∧ y ≤ (64 : Nat) ∧ (64 : Nat) - y < (64 : Nat) - x_4 else ∃ (x_5 : Nat), (((0 : Nat) = (0 : Nat) ∧ (0 : Nat) = (0 : Nat) ∧ (64 : Nat) = (64 : Nat) ∧
  (0 : Nat) = (0 : Nat) ∧ (0 : Nat) = (0 : Nat) ∧ (126 : Int) - (↑x_4 : Int) = (126 : Int) - (↑x_4 : Int) ∧ (0 : Nat) = (0 : Nat) ∧ (64 : Nat) = (64 : Nat) ∧ (↑(64 : Nat) : Int) = (↑(64 : Nat) : Int) ∧ (0 : Int) = (↑x_5 :
  Int) ∧ false :: List.replicate (nat_lit 126) false = List.replicate (127 : Nat) false ∧ false = false ∧ genF = genF ∧ false = false ∧ encTo x x_2 = encTo x x_2 ∧ false = false ∧ divTo x x_4 = xorP (divTo x ((126 : Nat) -
  Int.toNat ((126 : Int) - (↑x_4 : Int)))) (Int.toNat ((126 : Int) - (↑x_4 : Int)) - (63 : Nat)) x_5 ∧ false = false) ∧ x_5 ≤ (64 : Nat)) ∧ ∀ (x_6 : Nat), x_6 ≤ (64 : Nat) → (IntKind.min IntKind.i64 ≤ (↑x_6 : Int) ∧ (↑x_6 :
  Int) ≤ IntKind.max IntKind.i64 ∧ ∀ (y : List Bool), List.Mem y [xorP (divTo x ((126 : Nat) - Int.toNat ((126 : Int) - (↑x_4 : Int)))) (Int.toNat ((126 : Int) - (↑x_4 : Int)) - (63 : Nat)) x_6] → List.length y = (127 :
  Nat) ∧ ∀ (y_1 : Bool), List.Mem y_1 y → True) → bif decide ((↑x_6 : Int) < (↑(64 : Nat) : Int)) then (((0 : Int) ≤ (↑x_6 : Int) ∧ (↑x_6 : Int) < (↑(64 : Nat) : Int)) ∧ (0 : Nat) + Int.toNat (↑x_6 : Int) < (64 : Nat)) ∧
  (((0 : Int) ≤ IntKind.wrap IntKind.i64 (IntKind.wrap IntKind.i64 ((126 : Int) - (↑x_4 : Int) - (63 : Int)) + (↑x_6 : Int)) ∧ IntKind.wrap IntKind.i64 (IntKind.wrap IntKind.i64 ((126 : Int) - (↑x_4 : Int) - (63 : Int)) +
  (↑x_6 : Int)) < (↑(127 : Nat) : Int)) ∧ Int.toNat (IntKind.wrap IntKind.i64 (IntKind.wrap IntKind.i64 ((126 : Int) - (↑x_4 : Int) - (63 : Int)) + (↑x_6 : Int))) < (127 : Nat) ∧ ((0 : Int) ≤ IntKind.wrap IntKind.i64
  (IntKind.wrap IntKind.i64 ((126 : Int) - (↑x_4 : Int) - (63 : Int)) + (↑x_6 : Int)) ∧ IntKind.wrap IntKind.i64 (IntKind.wrap IntKind.i64 ((126 : Int) - (↑x_4 : Int) - (63 : Int)) + (↑x_6 : Int)) < (↑(127 : Nat) : Int)) ∧
  Int.toNat (IntKind.wrap IntKind.i64 (IntKind.wrap IntKind.i64 ((126 : Int) - (↑x_4 : Int) - (63 : Int)) + (↑x_6 : Int))) < (127 : Nat)) ∧ ∃ (y : Nat), ((0 : Nat) = (0 : Nat) ∧ (0 : Nat) = (0 : Nat) ∧ (64 : Nat) = (64 :
  Nat) ∧ (0 : Nat) = (0 : Nat) ∧ (0 : Nat) = (0 : Nat) ∧ (126 : Int) - (↑x_4 : Int) = (126 : Int) - (↑x_4 : Int) ∧ (0 : Nat) = (0 : Nat) ∧ (64 : Nat) = (64 : Nat) ∧ (↑(64 : Nat) : Int) = (↑(64 : Nat) : Int) ∧ IntKind.wrap
  IntKind.i64 ((↑x_6 : Int) + (1 : Int)) = (↑y : Int) ∧ false :: List.replicate (nat_lit 126) false = List.replicate (127 : Nat) false ∧ false = false ∧ genF = genF ∧ false = false ∧ encTo x x_2 = encTo x x_2 ∧ false =
  false ∧ (List.set (xorP (divTo x ((126 : Nat) - Int.toNat ((126 : Int) - (↑x_4 : Int)))) (Int.toNat ((126 : Int) - (↑x_4 : Int)) - (63 : Nat)) x_6) (Int.toNat (IntKind.wrap IntKind.i64 (IntKind.wrap IntKind.i64 ((126 :
  Int) - (↑x_4 : Int) - (63 : Int)) + (↑x_6 : Int)))) !List.getD (xorP (divTo x ((126 : Nat) - Int.toNat ((126 : Int) - (↑x_4 : Int)))) (Int.toNat ((126 : Int) - (↑x_4 : Int)) - (63 : Nat)) x_6) (Int.toNat (IntKind.wrap
  IntKind.i64 (IntKind.wrap IntKind.i64 ((126 : Int) - (↑x_4 : Int) - (63 : Int)) + (↑x_6 : Int)))) false == decide (List.getD genF ((0 : Nat) + Int.toNat (↑x_6 : Int)) (0 : Int) = (1 : Int))) = xorP (divTo x ((126 : Nat) -
  Int.toNat ((126 : Int) - (↑x_4 : Int)))) (Int.toNat ((126 : Int) - (↑x_4 : Int)) - (63 : Nat)) y ∧ false = false) ∧ y ≤ (64 : Nat) ∧ (64 : Nat) - y < (64 : Nat) - x_6 else ∃ (y : Nat), ((0 : Nat) = (0 : Nat) ∧ (0 : Nat) =
  (0 : Nat) ∧ (64 : Nat) = (64 : Nat) ∧ (0 : Nat) = (0 : Nat) ∧ (0 : Nat) = (0 : Nat) ∧ IntKind.wrap IntKind.i64 ((126 : Int) - (↑x_4 : Int) - (1 : Int)) = (126 : Int) - (↑y : Int) ∧ false :: List.replicate (nat_lit 126)
  false = List.replicate (127 : Nat) false ∧ false = false ∧ genF = genF ∧ false = false ∧ encTo x x_2 = encTo x x_2 ∧ false = false ∧ xorP (divTo x ((126 : Nat) - Int.toNat ((126 : Int) - (↑x_4 : Int)))) (Int.toNat ((126 :
  Int) - (↑x_4 : Int)) - (63 : Nat)) x_6 = divTo x y ∧ false = false) ∧ y ≤ (64 : Nat) ∧ (64 : Nat) - y < (64 : Nat) - x_4 else ((0 : Int) ≤ (63 : Int) ∧ (63 : Int) ≤ (↑(127 : Nat) : Int) ∧ (127 : Nat) ≤
  (9223372036854775807 : Nat) ∧ (0 : Int) ≤ (63 : Int) ∧ (63 : Int) ≤ (↑(127 : Nat) : Int) ∧ (127 : Nat) ≤ (9223372036854775807 : Nat) ∧ (63 : Nat) ≤ List.length (divTo x x_4) ∧ (63 : Nat) ≤ List.length (encTo x x_2)) ∧
  splice (encTo x x_2) (0 : Nat) (List.take (63 : Nat) (seg (divTo x x_4) (0 : Nat) (63 : Nat))) = encF x
theorem vc75 (x : Int) : P75 x = vcFun C75 (ann75 x) Go.Proofs.Tryd.f75 [⟨.int .u64, x⟩] [] (out75 x) := by kernel_rfl

end Go.SL.A

/- Codewords. -/
namespace Go.SL.A
open Go Go.SL Go.SL.S
set_option maxRecDepth 100000

theorem hw75 {x : Int} (hw : Go.SL.allP (List.flatMap (fun a : AV => a.t.wf a.x) [⟨.int .u64, x⟩] ++ List.flatMap Blk.wf [])) : 0 ≤ x ∧ x ≤ 18446744073709551615 := by
  simp only [List.flatMap_cons, List.flatMap_nil, Ty.wf, List.append_nil, List.cons_append, List.nil_append, Go.SL.allP] at hw
  exact hw

theorem bit_shr {x : Int} (hx : 0 ≤ x ∧ x ≤ 18446744073709551615) {i : Nat} (hi : i < 64) : decide (iand .u64 (ishr .u64 x (i : Int)) 1 = 1) = bitX x i := by
  obtain ⟨n, rfl⟩ : ∃ n : Nat, x = n := ⟨x.toNat, by omega⟩
  have e1 : ishr .u64 (n : Int) (i : Int) = ((n / 2 ^ i : Nat) : Int) := by
    unfold ishr
    have : min ((i : Int).toNat) IntKind.u64.bits = i := by
      have : IntKind.u64.bits = 64 := rfl
      omega
    rw [this, Int.fdiv_eq_ediv_of_nonneg _ (by exact Int.pow_nonneg (by decide))]
    simp
  have hq : n / 2 ^ i ≤ n := Nat.div_le_self _ _
  have e2 : ∀ m : Nat, m < 18446744073709551616 → iand .u64 (m : Int) 1 = ((m % 2 : Nat) : Int) := fun m hm => by
    unfold iand
    have h1 : (BitVec.ofInt IntKind.u64.bits (m : Int) &&& BitVec.ofInt IntKind.u64.bits 1).toNat = m % 2 := by
      rw [BitVec.toNat_and, BitVec.ofInt_natCast, BitVec.toNat_ofNat]
      have e : (2 : Nat) ^ IntKind.u64.bits = 18446744073709551616 := by decide
      have e1 : (BitVec.ofInt IntKind.u64.bits 1).toNat = 1 := by decide
      rw [e, e1, Nat.mod_eq_of_lt hm, Nat.and_one_is_mod]
    rw [h1]
    have : IntKind.u64.wrap ((m % 2 : Nat) : Int) = ((m % 2 : Nat) : Int) % 18446744073709551616 := by simp [IntKind.wrap, IntKind.bits, IntKind.signed]
    rw [this]; omega
  rw [e1, e2 _ (by omega)]
  unfold bitX
  have hp : (n : Int) / 2 ^ i = ((n / 2 ^ i : Nat) : Int) := by simp
  rw [hp]
  congr 1

theorem encTo_len (x : Int) (i : Nat) : (encTo x i).length = 127 := by simp [encTo]
theorem encTo_at (x : Int) (i : Nat) {k : Nat} (h : k < 127) : (encTo x i)[k]? = some (decide (63 ≤ k ∧ k < 63 + i) && bitX x (k - 63)) := by
  unfold encTo; rw [List.getElem?_map, List.getElem?_range h]; rfl
theorem encTo_step (x : Int) {i : Nat} (hi : i < 64) : List.set (encTo x i) (63 + i) (bitX x i) = encTo x (i + 1) := by
  refine List.ext_getElem? fun k => ?_
  by_cases h : k < 127
  · rw [List.getElem?_set, encTo_at x (i + 1) h, encTo_at x i h]
    by_cases e : 63 + i = k
    · subst e
      rw [if_pos rfl, if_pos (by rw [encTo_len]; exact h), decide_eq_true (show 63 ≤ 63 + i ∧ 63 + i < 63 + (i + 1) by omega), Bool.true_and, Nat.add_sub_cancel_left]
    · rw [if_neg e]
      have : decide (63 ≤ k ∧ k < 63 + i) = decide (63 ≤ k ∧ k < 63 + (i + 1)) := by
        congr 1
        exact propext ⟨fun _ => by omega, fun _ => by omega⟩
      rw [this]
  · rw [List.getElem?_eq_none (by rw [List.length_set, encTo_len]; omega), List.getElem?_eq_none (by rw [encTo_len]; omega)]

theorem xorP_len (r : List Bool) (s n : Nat) : (xorP r s n).length = 127 := by simp [xorP]
theorem xorP_at (r : List Bool) (s n : Nat) {k : Nat} (h : k < 127) : (xorP r s n)[k]? = some (if s ≤ k ∧ k < s + n then bw r k != genB (k - s) else bw r k) := by
  unfold xorP; rw [List.getElem?_map, List.getElem?_range h]; rfl
theorem xorP_bw (r : List Bool) (s n : Nat) {k : Nat} (h : k < 127) : bw (xorP r s n) k = if s ≤ k ∧ k < s + n then bw r k != genB (k - s) else bw r k := by
  unfold bw; rw [List.getD_eq_getElem?_getD, xorP_at r s n h]; rfl
theorem xorP_zero {r : List Bool} (hl : r.length = 127) (s : Nat) : r = xorP r s 0 := by
  refine List.ext_getElem? fun k => ?_
  by_cases h : k < 127
  · rw [xorP_at r s 0 h, if_neg (by omega)]
    unfold bw
    rw [List.getD_eq_getElem?_getD, List.getElem?_eq_getElem (by omega)]; rfl
  · rw [List.getElem?_eq_none (by omega), List.getElem?_eq_none (by rw [xorP_len]; omega)]
theorem xorP_step (r : List Bool) {s n : Nat} (h : s + n < 127) : List.set (xorP r s n) (s + n) (bw (xorP r s n) (s + n) != genB n) = xorP r s (n + 1) := by
  refine List.ext_getElem? fun k => ?_
  by_cases hk : k < 127
  · rw [List.getElem?_set, xorP_at r s (n + 1) hk, xorP_at r s n hk]
    by_cases e : s + n = k
    · subst e
      rw [if_pos rfl, if_pos (by rw [xorP_len]; exact h), if_pos (by omega), xorP_bw r s n h, if_neg (by omega), Nat.add_sub_cancel_left]
    · rw [if_neg e]
      by_cases h1 : s ≤ k ∧ k < s + n
      · rw [if_pos h1, if_pos (by omega)]
      · rw [if_neg h1, if_neg (by omega)]
  · rw [List.getElem?_eq_none (by rw [List.length_set, xorP_len]; omega), List.getElem?_eq_none (by rw [xorP_len]; omega)]
theorem divTo_len (x : Int) : ∀ n, (divTo x n).length = 127
  | 0 => encTo_len x 64
  | n + 1 => by
    rw [divTo]; split
    · exact xorP_len _ _ _
    · exact divTo_len x n

theorem encTo_zero (x : Int) : List.replicate 127 false = encTo x 0 := by
  refine List.ext_getElem? fun k => ?_
  by_cases h : k < 127
  · rw [encTo_at x 0 h, List.getElem?_replicate, if_pos h, decide_eq_false (by omega)]; rfl
  · rw [List.getElem?_eq_none (by rw [List.length_replicate]; omega), List.getElem?_eq_none (by rw [encTo_len]; omega)]

theorem pure75 (x : Int) (hx : 0 ≤ x ∧ x ≤ 18446744073709551615) : P75 x := by
  unfold P75
  have z : false :: List.replicate 126 false = List.replicate 127 false := rfl
  have gl := genF_len
  simp only [eq_self, true_and, and_true, Int.toNat_natCast, z, Nat.zero_add]
  refine ⟨0, ⟨⟨rfl, encTo_zero x⟩, by omega⟩, fun i hi _ => ?_⟩
  by_cases h : (i : Int) < 64
  · rw [decide_eq_true h, cond_true, w64 (n := 63 + (i : Int)) (by omega) (by omega), bit_shr hx (by omega)]
    have e : (63 + (i : Int)).toNat = 63 + i := by omega
    rw [e]
    exact ⟨⟨by omega, ⟨by omega, by omega⟩, by omega⟩, i + 1, ⟨step_i (by omega), encTo_step x (by omega)⟩, by omega, by omega⟩
  · have : i = 64 := by omega
    subst this
    rw [decide_eq_false h, cond_false]
    refine ⟨0, ⟨⟨by omega, rfl⟩, by omega⟩, fun n hn _ => ?_⟩
    have en : (126 - (n : Int)).toNat = 126 - n := by omega
    rw [en, show 126 - (126 - n) = n by omega, show 126 - n - 63 = 63 - n by omega]
    have hL := divTo_len x n
    by_cases h2 : 63 ≤ 126 - (n : Int)
    · rw [decide_eq_true h2, cond_true, w64 (n := 126 - (n : Int) - 1) (by omega) (by omega), w64 (n := 126 - (n : Int) - 63) (by omega) (by omega)]
      have hb : (divTo x n).getD (126 - n) false = bw (divTo x n) (126 - n) := rfl
      have hs : divTo x (n + 1) = if bw (divTo x n) (126 - n) then xorP (divTo x n) (63 - n) 64 else divTo x n := rfl
      rw [hb]
      refine ⟨⟨⟨by omega, by omega⟩, by omega⟩, ?_⟩
      cases hc : bw (divTo x n) (126 - n) with
      | false =>
        rw [hc, if_neg (by simp)] at hs
        rw [Bool.not_false, cond_true]
        exact ⟨n + 1, ⟨by omega, hs.symm⟩, by omega, by omega⟩
      | true =>
        rw [hc, if_pos rfl] at hs
        rw [Bool.not_true, cond_false]
        refine ⟨0, ⟨⟨rfl, xorP_zero hL _⟩, by omega⟩, fun k hk _ => ?_⟩
        by_cases h3 : (k : Int) < ((64 : Nat) : Int)
        · rw [decide_eq_true h3, cond_true, w64 (n := 126 - (n : Int) - 63 + (k : Int)) (by omega) (by omega)]
          have ek : (126 - (n : Int) - 63 + (k : Int)).toNat = 63 - n + k := by omega
          rw [ek]
          have st := xorP_step (divTo x n) (s := 63 - n) (n := k) (by omega)
          refine ⟨⟨⟨by first | omega | trivial, by first | omega | trivial⟩, by omega⟩, ⟨⟨by first | omega | trivial, by first | omega | trivial⟩, by omega, ⟨by first | omega | trivial, by first | omega | trivial⟩, by omega⟩, k + 1, ⟨step_i (by omega), st⟩, by omega, by omega⟩
        · have : k = 64 := by omega
          subst this
          rw [decide_eq_false h3, cond_false]
          exact ⟨n + 1, ⟨by omega, hs.symm⟩, by omega, by omega⟩
    · have : n = 64 := by omega
      subst this
      rw [decide_eq_false h2, cond_false]
      refine ⟨⟨by omega, by omega, by omega, by omega, by omega, by omega, by omega, by rw [encTo_len]; omega⟩, ?_⟩
      have e1 : seg (divTo x 64) 0 63 = (divTo x 64).take 63 := by unfold seg; rw [List.drop_zero]
      rw [e1, List.take_of_length_le (by simp; omega)]
      unfold splice encF encW
      rw [List.take_zero, List.nil_append, List.length_take, hL, Nat.min_eq_left (by omega)]
end Go.SL.A

/- Functions do what they are held to do. -/
namespace Go.SL.A
open Go Go.SL Go.SL.S
theorem snd75 : Sound Go.Proofs.Tryd.prog G75 := snd106.add ⟨_, Go.Proofs.Tryd.func75, by kernel_rfl, by kernel_rfl⟩ (by
  intro args ins out h hp
  unfold sp75 at h
  split at h
  · rename_i x
    cases h
    exact vcFun_ok (C := C75) good snd106 Meth.none mix Go.Proofs.Tryd.func75 (ann75 x) (fun hw => by rw [← vc75 x]; exact pure75 x (hw75 hw))
  · cases h)

end Go.SL.A

/- Functions and what they are held to do: bound to their code. -/
namespace Go.SL.A
open Go Go.SL Go.SL.S
set_option maxRecDepth 100000
noncomputable def C68 : Ctx := ⟨Go.Proofs.Tryd.prog, D, G75, (fun _ _ => none), fun _ => []⟩
def ann68 (x : Int) : Nat → St → Option Ann := fun id S => match id with | 0 => some ⟨Nat, [2, 3, 4], [0], fun i => [(0, .v (.int .u64) (x / 2 ^ i)), (5, .v (.int .i64) (i : Int))], fun i => [(1, some ⟨false, true, .arr 127 .bool, [encTo x i]⟩), (2, some ⟨false, true, .arr 127 (.int .i64), [numB (encTo x i)]⟩)], fun i => i ≤ 64, fun i => 64 - i⟩ | 2 => some ⟨Nat, [2, 3, 4, 6], [0, 1, 3], fun n => [(7, .v (.int .i64) (126 - (n : Int)))], fun n => [(2, some ⟨false, true, .arr 127 (.int .i64), [numB (divTo x n)]⟩)], fun n => n ≤ 64, fun n => 64 - n⟩ | 4 => some ⟨Nat, [2, 3, 4, 6, 7], [0, 1, 3], fun k => [(8, .v (.int .i64) (k : Int))], fun k => [(2, some ⟨false, true, .arr 127 (.int .i64), [numB (xorP (divTo x (126 - (S.i 7).toNat)) ((S.i 7).toNat - 63) k)]⟩)], fun k => k ≤ 64, fun k => 64 - k⟩ | _ => some ⟨Nat, [2, 3, 4], [0, 2], fun k => [(9, .v (.int .i64) (k : Int))], fun k => [(1, some ⟨false, true, .arr 127 .bool, [(encF x).take k ++ (encW x).drop k]⟩)], fun k => k ≤ 63, fun k => 63 - k⟩
def out68 (x : Int) : COut := ⟨[], .v (.arr 127 .bool) (encF x), [], []⟩
def sp68 : Spec := fun args ins => match args, ins with
  | [⟨.int .u64, x⟩], [] => some (out68 x)
  | _, _ => none
def G68 := addG G75 44 sp68
def P68 (x : Int) : Prop :=
  ∃ (x_1 : Nat), ((x = x / (2 : Int) ^ x_1 ∧ (0 : Nat) = (0 : Nat) ∧ (0 : Nat) = (0 : Nat) ∧ (0 : Nat) = (0 : Nat) ∧ (0 : Int) = (↑x_1 : Int) ∧ false :: List.replicate (nat_lit 126) false = List.replicate (127 : Nat) false
  ∧ false = false ∧ false :: List.replicate (nat_lit 126) false = encTo x x_1 ∧ false = false ∧ (0 : Int) :: List.replicate (nat_lit 126) (0 : Int) = numB (encTo x x_1) ∧ false = false) ∧ x_1 ≤ (64 : Nat)) ∧ ∀ (x_2 : Nat),
  x_2 ≤ (64 : Nat) → (IntKind.min IntKind.u64 ≤ x / (2 : Int) ^ x_2 ∧ x / (2 : Int) ^ x_2 ≤ IntKind.max IntKind.u64 ∧ IntKind.min IntKind.i64 ≤ (↑x_2 : Int) ∧ (↑x_2 : Int) ≤ IntKind.max IntKind.i64 ∧ (∀ (y : List Bool),
  List.Mem y [encTo x x_2] → List.length y = (127 : Nat) ∧ ∀ (y_1 : Bool), List.Mem y_1 y → True) ∧ ∀ (y : List Int), List.Mem y [numB (encTo x x_2)] → List.length y = (127 : Nat) ∧ ∀ (y_1 : Int), List.Mem y_1 y →
  IntKind.min IntKind.i64 ≤ y_1 ∧ y_1 ≤ IntKind.max IntKind.i64) → bif decide ((↑x_2 : Int) < (64 : Int)) then (2 : Int) ≠ (0 : Int) ∧ bif decide (Int.tmod (x / (2 : Int) ^ x_2) (2 : Int) = (1 : Int)) then (((0 : Int) ≤
  IntKind.wrap IntKind.i64 ((63 : Int) + (↑x_2 : Int)) ∧ IntKind.wrap IntKind.i64 ((63 : Int) + (↑x_2 : Int)) < (↑(127 : Nat) : Int)) ∧ Int.toNat (IntKind.wrap IntKind.i64 ((63 : Int) + (↑x_2 : Int))) < (127 : Nat)) ∧ (((0
  : Int) ≤ IntKind.wrap IntKind.i64 ((63 : Int) + (↑x_2 : Int)) ∧ IntKind.wrap IntKind.i64 ((63 : Int) + (↑x_2 : Int)) < (↑(127 : Nat) : Int)) ∧ Int.toNat (IntKind.wrap IntKind.i64 ((63 : Int) + (↑x_2 : Int))) < (127 :
  Nat)) ∧ (2 : Int) ≠ (0 : Int) ∧ ∃ (y : Nat), (IntKind.wrap IntKind.u64 (Int.tdiv (x / (2 : Int) ^ x_2) (2 : Int)) = x / (2 : Int) ^ y ∧ (0 : Nat) = (0 : Nat) ∧ (0 : Nat) = (0 : Nat) ∧ (0 : Nat) = (0 : Nat) ∧ IntKind.wrap
  IntKind.i64 ((↑x_2 : Int) + (1 : Int)) = (↑y : Int) ∧ false :: List.replicate (nat_lit 126) false = List.replicate (127 : Nat) false ∧ false = false ∧ List.set (encTo x x_2) (Int.toNat (IntKind.wrap IntKind.i64 ((63 :
  Int) + (↑x_2 : Int)))) true = encTo x y ∧ false = false ∧ List.set (numB (encTo x x_2)) (Int.toNat (IntKind.wrap IntKind.i64 ((63 : Int) + (↑x_2 : Int)))) (1 : Int) = numB (encTo x y) ∧ false = false) ∧ y ≤ (64 : Nat) ∧
  (64 : Nat) - y < (64 : Nat) - x_2 else (2 : Int) ≠ (0 : Int) ∧ ∃ (y : Nat), (IntKind.wrap IntKind.u64 (Int.tdiv (x / (2 : Int) ^ x_2) (2 : Int)) = x / (2 : Int) ^ y ∧ (0 : Nat) = (0 : Nat) ∧ (0 : Nat) = (0 : Nat) ∧ (0 :
  Nat) = (0 : Nat) ∧ IntKind.wrap IntKind.i64 ((↑x_2 : Int) + (1 : Int)) = (↑y : Int) ∧ false :: List.replicate (nat_lit 126) false = List.replicate (127 : Nat) false ∧ false = false ∧ encTo x x_2 = encTo x y ∧ false =
  false ∧ numB (encTo x x_2) = numB (encTo x y) ∧ false = false) ∧ y ≤ (64 : Nat) ∧ (64 : Nat) - y < (64 : Nat) - x_2 else ∃ (x_3 : Nat), (((0 : Nat) = (0 : Nat) ∧ (0 : Nat) = (0 : Nat) ∧ (0 : Nat) = (0 : Nat) ∧ (0 : Nat) =
  (0 : Nat) ∧ (64 : Nat) = (64 : Nat) ∧ (126 : Int) = (126 : Int) - (↑x_3 : Int) ∧ false :: List.replicate (nat_lit 126) false = List.replicate (127 : Nat) false ∧ false = false ∧ encTo x x_2 = encTo x x_2 ∧ false = false ∧
  numB (encTo x x_2) = numB (divTo x x_3) ∧ false = false ∧ Prod.snd (refG (140 : Nat)) = Prod.snd (refG (140 : Nat)) ∧ false = false) ∧ x_3 ≤ (64 : Nat)) ∧ ∀ (x_4 : Nat), x_4 ≤ (64 : Nat) → (IntKind.min IntKind.i64 ≤ (126
  : Int) - (↑x_4 : Int) ∧ (126 : Int) - (↑x_4 : Int) ≤ IntKind.max IntKind.i64 ∧ ∀ (y : List Int), List.Mem y [numB (divTo x x_4)] → List.length y = (127 : Nat) ∧ ∀ (y_1 : Int), List.Mem y_1 y → IntKind.min IntKind.i64 ≤
  y_1 ∧ y_1 ≤ IntKind.max IntKind.i64) → bif decide ((63 : Int) ≤ (126 : Int) - (↑x_4 : Int)) then (((0 : Int) ≤ (126 : Int) - (↑x_4 : Int) ∧ (126 : Int) - (↑x_4 : Int) < (↑(127 : Nat) : Int)) ∧ Int.toNat ((126 : Int) -
  (↑x_4 : Int)) < (127 : Nat)) ∧ bif decide (List.getD (numB (divTo x x_4)) (Int.toNat ((126 : Int) - (↑x_4 : Int))) (0 : Int) = (1 : Int)) then ∃ (x_5 : Nat), (((0 : Nat) = (0 : Nat) ∧ (0 : Nat) = (0 : Nat) ∧ (0 : Nat) =
  (0 : Nat) ∧ (0 : Nat) = (0 : Nat) ∧ (64 : Nat) = (64 : Nat) ∧ (126 : Int) - (↑x_4 : Int) = (126 : Int) - (↑x_4 : Int) ∧ (0 : Int) = (↑x_5 : Int) ∧ false :: List.replicate (nat_lit 126) false = List.replicate (127 : Nat)
  false ∧ false = false ∧ encTo x x_2 = encTo x x_2 ∧ false = false ∧ numB (divTo x x_4) = numB (xorP (divTo x ((126 : Nat) - Int.toNat ((126 : Int) - (↑x_4 : Int)))) (Int.toNat ((126 : Int) - (↑x_4 : Int)) - (63 : Nat))
  x_5) ∧ false = false ∧ Prod.snd (refG (140 : Nat)) = Prod.snd (refG (140 : Nat)) ∧ false = false) ∧ x_5 ≤ (64 : Nat)) ∧ ∀ (x_6 : Nat), x_6 ≤ (64 : Nat) → (IntKind.min IntKind.i64 ≤ (↑x_6 : Int) ∧ (↑x_6 : Int) ≤
  IntKind.max IntKind.i64 ∧ ∀ (y : List Int), List.Mem y [numB (xorP (divTo x ((126 : Nat) - Int.toNat ((126 : Int) - (↑x_4 : Int)))) (Int.toNat ((126 : Int) - (↑x_4 : Int)) - (63 : Nat)) x_6)] → List.length y = (127 : Nat)
  ∧ ∀ (y_1 : Int), List.Mem y_1 y → IntKind.min IntKind.i64 ≤ y_1 ∧ y_1 ≤ IntKind.max IntKind.i64) → bif decide ((↑x_6 : Int) < (↑(64 : Nat) : Int)) then (((0 : Int) ≤ IntKind.wrap IntKind.i64 (IntKind.wrap IntKind.i64
  ((126 : Int) - (↑x_4 : Int) - (63 : Int)) + (↑x_6 : Int)) ∧ IntKind.wrap IntKind.i64 (IntKind.wrap IntKind.i64 ((126 : Int) - (↑x_4 : Int) - (63 : Int)) + (↑x_6 : Int)) < (↑(127 : Nat) : Int)) ∧ Int.toNat (IntKind.wrap
  IntKind.i64 (IntKind.wrap IntKind.i64 ((126 : Int) - (↑x_4 : Int) - (63 : Int)) + (↑x_6 : Int))) < (127 : Nat) ∧ ((0 : Int) ≤ (↑x_6 : Int) ∧ (↑x_6 : Int) < (↑(64 : Nat) : Int)) ∧ (0 : Nat) + Int.toNat (↑x_6 : Int) < (64 :
  Nat) ∧ ((0 : Int) ≤ IntKind.wrap IntKind.i64 (IntKind.wrap IntKind.i64 ((126 : Int) - (↑x_4 : Int) - (63 : Int)) + (↑x_6 : Int)) ∧ IntKind.wrap IntKind.i64 (IntKind.wrap IntKind.i64 ((126 : Int) - (↑x_4 : Int) - (63 :
  Int)) + (↑x_6 : Int)) < (↑(127 : Nat) : Int)) ∧ Int.toNat (IntKind.wrap IntKind.i64 (IntKind.wrap IntKind.i64 ((126 : Int) - (↑x_4 : Int) - (63 : Int)) + (↑x_6 : Int))) < (127 : Nat)) ∧ ∃ (y : Nat), ((0 : Nat) = (0 : Nat)
  ∧ (0 : Nat) = (0 : Nat) ∧ (0 : Nat) = (0 : Nat) ∧ (0 : Nat) = (0 : Nat) ∧ (64 : Nat) = (64 : Nat) ∧ (126 : Int) - (↑x_4 : Int) = (126 : Int) - (↑x_4 : Int) ∧ IntKind.wrap IntKind.i64 ((↑x_6 : Int) + (1 : Int)) = (↑y :
  Int) ∧ false :: List.replicate (nat_lit 126) false = List.replicate (127 : Nat) false ∧ false = false ∧ encTo x x_2 = encTo x x_2 ∧ false = false ∧ List.set (numB (xorP (divTo x ((126 : Nat) - Int.toNat ((126 : Int) -
  (↑x_4 : Int)))) (Int.toNat ((126 : Int) - (↑x_4 : Int)) - (63 : Nat)) x_6)) (Int.toNat (IntKind.wrap IntKind.i64 (IntKind.wrap IntKind.i64 ((126 : Int) - (↑x_4 : Int) - (63 : Int)) + (↑x_6 : Int)))) (ixor IntKind.i64
  (List.getD (numB (xorP (divTo x ((126 : Nat) - Int.toNat ((126 : Int) - (↑x_4 : Int)))) (Int.toNat ((126 : Int) - (↑x_4 : Int)) - (63 : Nat)) x_6)) (Int.toNat (IntKind.wrap IntKind.i64 (IntKind.wrap IntKind.i64 ((126 :
  Int) - (↑x_4 : Int) - (63 : Int)) + (↑x_6 : Int)))) (0 : Int)) (List.getD (Prod.snd (refG (140 : Nat))) ((0 : Nat) + Int.toNat (↑x_6 : Int)) (0 : Int))) = numB (xorP (divTo x ((126 : Nat) - Int.toNat ((126 : Int) - (↑x_4
  : Int)))) (Int.toNat ((126 : Int) - (↑x_4 : Int)) - (63 : Nat)) y) ∧ false = false ∧ Prod.snd (refG (140 : Nat)) = Prod.snd (refG (140 : Nat)) ∧ false = false) ∧ y ≤ (64 : Nat) ∧ (64 : Nat) - y < (64 : Nat) - x_6 else ∃
  (y : Nat), ((0 : Nat) = (0 : Nat) ∧ (0 : Nat) = (0 : Nat) ∧ (0 : Nat) = (0 : Nat) ∧ (0 : Nat) = (0 : Nat) ∧ (64 : Nat) = (64 : Nat) ∧ IntKind.wrap IntKind.i64 ((126 : Int) - (↑x_4 : Int) - (1 : Int)) = (126 : Int) - (↑y :
  Int) ∧ false :: List.replicate (nat_lit 126) false = List.replicate (127 : Nat) false ∧ false = false ∧ encTo x x_2 = encTo x x_2 ∧ false = false ∧ numB (xorP (divTo x ((126 : Nat) - Int.toNat ((126 : Int) - (↑x_4 :
  Int)))) (Int.toNat ((126 : Int) - (↑x_4 : Int)) - (63 : Nat)) x_6) = numB (divTo x y) ∧ false = false ∧ Prod.snd (refG (140 : Nat)) = Prod.snd (refG (140 : Nat)) ∧ false = false) ∧ y ≤ (64 : Nat) ∧ (64 : Nat) - y < (64 :
  Nat) - x_4 else ∃ (y : Nat), ((0 : Nat) = (0 : Nat) ∧ (0 : Nat) = (0 : Nat) ∧ (0 : Nat) = (0 : Nat) ∧ (0 : Nat) = (0 : Nat) ∧ (64 : Nat) = (64 : Nat) ∧ IntKind.wrap IntKind.i64 ((126 : Int) - (↑x_4 : Int) - (1 : Int)) =
  (126 : Int) - (↑y : Int) ∧ false :: List.replicate (nat_lit 126) false = List.replicate (127 : Nat) false ∧ false = false ∧ encTo x x_2 = encTo x x_2 ∧ false = false ∧ numB (divTo x x_4) = numB (divTo x y) ∧ false = false
  ∧ Prod.snd (refG (140 : Nat)) = Prod.snd (refG (140 : Nat)) ∧ false = false) ∧ y ≤ (64 : Nat) ∧ (64 : Nat) - y < (64 : Nat) - x_4 else ∃ (x_5 : Nat), (((0 : Nat) = (0 : Nat) ∧ (0 : Nat) = (0 : Nat) ∧ (0 : Nat) = (0 : Nat)
  ∧ (0 : Int) = (↑x_5 : Int) ∧ false :: List.replicate (nat_lit 126) false = List.replicate (127 : Nat) false ∧ false = false ∧ encTo x x_2 = List.take x_5 (encF x) ++ List.drop x_5 (encW x) ∧ false = false ∧ numB (divTo x
  x_4) = numB (divTo x x_4) ∧ false = false) ∧ x_5 ≤ (63 : Nat)) ∧ ∀ (x_6 : Nat), x_6 ≤ (63 : Nat) → (IntKind.min IntKind.i64 ≤ (↑x_6 : Int) ∧ (↑x_6 : Int) ≤ IntKind.max IntKind.i64 ∧ ∀ (y : List Bool), List.Mem y
  [List.take x_6 (encF x) ++ List.drop x_6 (encW x)] → List.length y = (127 : Nat) ∧ ∀ (y_1 : Bool), List.Mem y_1 y → True) → bif decide ((↑x_6 : Int) < (63 : Int)) then (((0 : Int) ≤ (↑x_6 : Int) ∧ (↑x_6 : Int) < (↑(127 :
  Nat) : Int)) ∧ Int.toNat (↑x_6 : Int) < (127 : Nat) ∧ ((0 : Int) ≤ (↑x_6 : Int) ∧ (↑x_6 : Int) < (↑(127 : Nat) : Int)) ∧ Int.toNat (↑x_6 : Int) < (127 : Nat)) ∧ ∃ (y : Nat), ((0 : Nat) = (0 : Nat) ∧ (0 : Nat) = (0 : Nat)
  ∧ (0 : Nat) = (0 : Nat) ∧ IntKind.wrap IntKind.i64 ((↑x_6 : Int) + (1 : Int)) = (↑y : Int) ∧ false :: List.replicate (nat_lit 126) false = List.replicate (127 : Nat) false ∧ false = false ∧ List.set (List.take x_6 (encF
  x) ++ List.drop x_6 (encW x)) (Int.toNat (↑x_6 : Int)) (decide (List.getD (numB (divTo x x_4)) (Int.toNat (↑x_6 : Int)) (0 : Int) = (1 : Int))) = List.take y (encF x) ++ List.drop y (encW x) ∧ false = false ∧ numB (divTo
  x x_4) = numB (divTo x x_4) ∧ false = false) ∧ y ≤ (63 : Nat) ∧ (63 : Nat) - y < (63 : Nat) - x_6 else List.append (List.take x_6 (encF x)) (List.drop x_6 (encW x)) = encF x
theorem vc68 (x : Int) : P68 x = vcFun C68 (ann68 x) Go.Proofs.Tryd.f44 [⟨.int .u64, x⟩] [] (out68 x) := by kernel_rfl

end Go.SL.A

/- The document's codewords. -/
namespace Go.SL.A
open Go Go.SL Go.SL.S
set_option maxRecDepth 100000

def n01 (b : Bool) : Int := if b then 1 else 0
theorem numB_len (w : List Bool) : (numB w).length = w.length := by simp [numB]
theorem numB_getD (w : List Bool) (k : Nat) : (numB w).getD k 0 = n01 (bw w k) := by
  unfold numB bw n01
  simp only [List.getD_eq_getElem?_getD, List.getElem?_map]
  cases w[k]? <;> rfl
theorem numB_set (w : List Bool) (k : Nat) (b : Bool) : List.set (numB w) k (n01 b) = numB (List.set w k b) := by
  unfold numB; rw [List.map_set]; rfl
theorem n01_one (b : Bool) : decide (n01 b = 1) = b := by cases b <;> rfl
theorem genF_num (k : Nat) : genF.getD k 0 = n01 (genB k) := by
  unfold genB n01
  by_cases hk : k < genF.length
  · have := List.all_eq_true.1 gen_bits _ (getD_mem (d := 0) hk)
    generalize genF.getD k 0 = v at *
    simp only [Bool.or_eq_true, decide_eq_true_eq] at this
    rcases this with rfl | rfl <;> rfl
  · rw [List.getD_eq_getElem?_getD, List.getElem?_eq_none (by omega)]; rfl
theorem ixor01 (a b : Bool) : ixor .i64 (n01 a) (n01 b) = n01 (a != b) := by cases a <;> cases b <;> decide

theorem pure68 (x : Int) (hx : 0 ≤ x ∧ x ≤ 18446744073709551615) : P68 x := by
  unfold P68
  have z : false :: List.replicate 126 false = List.replicate 127 false := rfl
  have z0 : (0 : Int) :: List.replicate 126 0 = numB (encTo x 0) := by rw [← encTo_zero]; rfl
  have gl := genF_len
  simp only [eq_self, true_and, and_true, Int.toNat_natCast, z, Nat.zero_add, gen_same]
  refine ⟨0, ⟨⟨by simp, rfl, encTo_zero x, z0⟩, by omega⟩, fun i hi hb => ?_⟩
  by_cases h : (i : Int) < 64
  · have hq : 0 ≤ x / 2 ^ i ∧ x / 2 ^ i ≤ 18446744073709551615 := by
      have h1 : (0 : Int) < 2 ^ i := Int.pow_pos (by decide)
      exact ⟨Int.ediv_nonneg hx.1 (Int.le_of_lt h1), Int.le_trans (Int.ediv_le_self _ hx.1) hx.2⟩
    have hbit : bitX x i = decide (x / 2 ^ i % 2 = 1) := rfl
    have hnext : x / 2 ^ (i + 1) = x / 2 ^ i / 2 := by rw [Int.pow_succ, Int.ediv_ediv_of_nonneg (Int.le_of_lt (Int.pow_pos (by decide)))]
    have hst := encTo_step x (i := i) (by omega)
    generalize x / 2 ^ i = q at *
    have d := tdm q (k := 2) (by decide)
    have e1 : q.tmod 2 = q % 2 := by omega
    have e2 : q.tdiv 2 = q / 2 := by omega
    have ew : IntKind.u64.wrap (q / 2) = q / 2 := by
      have : IntKind.u64.wrap (q / 2) = (q / 2) % 18446744073709551616 := by simp [IntKind.wrap, IntKind.bits, IntKind.signed]
      rw [this]; omega
    have e63 : (63 + (i : Int)).toNat = 63 + i := by omega
    rw [decide_eq_true h, cond_true, e1, e2, ew, w64 (n := 63 + (i : Int)) (by omega) (by omega), e63]
    refine ⟨by decide, ?_⟩
    cases hc : decide (q % 2 = 1) with
    | true =>
      rw [hbit, hc] at hst
      rw [cond_true]
      refine ⟨⟨⟨by omega, by omega⟩, by omega⟩, ⟨⟨by omega, by omega⟩, by omega⟩, by decide, i + 1, ⟨hnext.symm, step_i (by omega), hst, ?_⟩, by omega, by omega⟩
      have := numB_set (encTo x i) (63 + i) true
      rw [hst] at this
      exact this
    | false =>
      rw [hbit, hc] at hst
      rw [cond_false]
      have hsame : encTo x i = encTo x (i + 1) := by
        rw [← hst]
        symm
        refine List.ext_getElem? fun k => ?_
        rw [List.getElem?_set]
        split
        · rename_i e
          subst e
          rw [if_pos (by rw [encTo_len]; omega), encTo_at x i (by omega), decide_eq_false (by omega)]; rfl
        · rfl
      exact ⟨by decide, i + 1, ⟨hnext.symm, step_i (by omega), hsame, by rw [← hsame]⟩, by omega, by omega⟩
  · have : i = 64 := by omega
    subst this
    rw [decide_eq_false h, cond_false]
    refine ⟨0, ⟨⟨by omega, rfl⟩, by omega⟩, fun n hn _ => ?_⟩
    have en : (126 - (n : Int)).toNat = 126 - n := by omega
    rw [en, show 126 - (126 - n) = n by omega, show 126 - n - 63 = 63 - n by omega]
    have hL := divTo_len x n
    by_cases h2 : 63 ≤ 126 - (n : Int)
    · rw [decide_eq_true h2, cond_true, w64 (n := 126 - (n : Int) - 1) (by omega) (by omega), w64 (n := 126 - (n : Int) - 63) (by omega) (by omega)]
      have hs : divTo x (n + 1) = if bw (divTo x n) (126 - n) then xorP (divTo x n) (63 - n) 64 else divTo x n := rfl
      rw [numB_getD, n01_one]
      refine ⟨⟨⟨by omega, by omega⟩, by omega⟩, ?_⟩
      cases hc : bw (divTo x n) (126 - n) with
      | false =>
        rw [hc, if_neg (by simp)] at hs
        rw [cond_false]
        exact ⟨n + 1, ⟨by omega, by rw [hs]⟩, by omega, by omega⟩
      | true =>
        rw [hc, if_pos rfl] at hs
        rw [cond_true]
        refine ⟨0, ⟨⟨rfl, congrArg numB (xorP_zero hL _)⟩, by omega⟩, fun k hk _ => ?_⟩
        by_cases h3 : (k : Int) < ((64 : Nat) : Int)
        · have ek : (126 - (n : Int) - 63 + (k : Int)).toNat = 63 - n + k := by omega
          rw [decide_eq_true h3, cond_true, w64 (n := 126 - (n : Int) - 63 + (k : Int)) (by omega) (by omega), ek, numB_getD, genF_num, ixor01, numB_set, xorP_step (divTo x n) (by omega)]
          exact ⟨⟨⟨by first | omega | trivial, by first | omega | trivial⟩, by omega, ⟨by first | omega | trivial, by first | omega | trivial⟩, by omega, ⟨by first | omega | trivial, by first | omega | trivial⟩, by omega⟩, k + 1, ⟨step_i (by omega), rfl⟩, by omega, by omega⟩
        · have : k = 64 := by omega
          subst this
          rw [decide_eq_false h3, cond_false]
          exact ⟨n + 1, ⟨by omega, by rw [hs]⟩, by omega, by omega⟩
    · have : n = 64 := by omega
      subst this
      rw [decide_eq_false h2, cond_false]
      have hlen : (encF x).length = 127 := by unfold encF encW; simp [hL, encTo_len]
      have hW : (encW x).length = 127 := encTo_len x 64
      have hz : encTo x 64 = List.take 0 (encF x) ++ List.drop 0 (encW x) := by rw [List.take_zero, List.nil_append, List.drop_zero, encW]
      refine ⟨0, ⟨⟨rfl, hz⟩, by omega⟩, fun k hk _ => ?_⟩
      by_cases h3 : (k : Int) < 63
      · have hbt : decide ((numB (divTo x 64)).getD k 0 = 1) = bw (divTo x 64) k := by rw [numB_getD]; exact n01_one _
        rw [decide_eq_true h3, cond_true, hbt]
        refine ⟨⟨⟨by omega, by omega⟩, by omega, ⟨by omega, by omega⟩, by omega⟩, k + 1, ⟨step_i (by omega), set_step (by omega) (by omega) ?_⟩, by omega, by omega⟩
        unfold encF bw
        rw [List.getElem?_append_left (by simp; omega), List.getElem?_take, if_pos (by omega), List.getD_eq_getElem?_getD, List.getElem?_eq_getElem (by omega)]; rfl
      · have : k = 63 := by omega
        subst this
        rw [decide_eq_false h3, cond_false]
        show List.take 63 (encF x) ++ List.drop 63 (encW x) = encF x
        rw [encF, List.take_append_of_le_length (by rw [List.length_take]; omega), List.take_take, Nat.min_self]
end Go.SL.A

/- Functions do what they are held to do. -/
namespace Go.SL.A
open Go Go.SL Go.SL.S
theorem snd68 : Sound Go.Proofs.Tryd.prog G68 := snd75.add ⟨_, Go.Proofs.Tryd.func44, by kernel_rfl, by kernel_rfl⟩ (by
  intro args ins out h hp
  unfold sp68 at h
  split at h
  · rename_i x
    cases h
    exact vcFun_ok (C := C68) good snd75 Meth.none mix Go.Proofs.Tryd.func44 (ann68 x) (fun hw => by rw [← vc68 x]; exact pure68 x (hw75 hw))
  · cases h)

end Go.SL.A
