/- Part 5 of what the statements of this seat need: a logic of states for the code of the model, the functions that they reach, and what these are held to do: no condition. -/
import Derived.Lib.Repeat
import Derived.Shelf.Strings.Repeat
import Derived.Test.YteahjgigkbkcdaaProg
import Derived.Test.YteahjgigkbkcdaaS04
import Derived.Test.YteahjgigkbkcdaaS02

/- Functions and what they are held to do: bound to their code. -/
namespace Go.SL.A
open Go Go.SL Go.SL.S
set_option maxRecDepth 100000
noncomputable def C57 : Ctx := ⟨Go.Proofs.Try.prog, D, G61, meth18, fun _ => []⟩
def ann57 (s : List Int) (bits : Int) : Nat → St → Option Ann := fun id _ => match id with | 0 => some ⟨Nat, [1, 4, 5, 6, 7, 8, 28], [1, 2, 3], fun i => [(29, .v (.int .i64) (i : Int))], fun i => [(4, some ⟨false, true, (.cons (.ref .slice) (.last (.ref .func))), [(.slice 5 (.cons (.int .i64) (.last (.int .i64))) [] 0 i, .func (.func 57) [] [])]⟩), (5, some ⟨false, false, (.cons (.int .i64) (.last (.int .i64))), pushQ s i⟩)], fun i => i ≤ 8, fun i => 8 - i⟩ | _ => some ⟨GS, [4, 5, 6, 7, 8], [1, 3], fun x => [(1, .v (.int .i64) x.2.2)], fun x => [(2, some ⟨false, true, .arr 8 (.int .i64), [x.2.1]⟩), (4, some ⟨false, true, (.cons (.ref .slice) (.last (.ref .func))), [(.slice 6 (.cons (.int .i64) (.last (.int .i64))) [] 0 x.1.length, .func (.func 57) [] [])]⟩), (6, some ⟨false, false, (.cons (.int .i64) (.last (.int .i64))), x.1⟩)], fun x => GI s bits x ∧ giveRun (giveMu x) x = giveRun 200 (pushQ s 8, z8, bits), fun x => giveMu x⟩
def out57 (s : List Int) (bits : Int) : COut := ⟨[], .tup [⟨.arr 8 (.int .i64), giveV s bits⟩, ⟨.int .i64, giveE s bits⟩], [], []⟩
def sp57 : Spec := fun args ins => match args, ins with
  | [⟨.arr 8 (.int .i64), s⟩, ⟨.int .i64, bits⟩], [] => some (out57 s bits)
  | _, _ => none
def G57 := addG G61 29 sp57
def P57 (s : List Int) (bits : Int) : Prop :=
  ∀ (b : Bool), (!rightF s) = b → ∀ (b_1 : Bool), (bif b then true else decide (bits < (0 : Int))) = b_1 → (((!b) = true → (!b) = true) ∧ (b = false → (!b) = true) ∧ ((!b_1) = true → (!b_1) = true) ∧ (b_1 = false → (!b_1) =
  true)) ∧ bif bif b_1 then true else decide ((1048576 : Int) < bits) then (0 : Int) :: List.replicate (nat_lit 7) (0 : Int) = giveV s bits ∧ (1 : Int) = giveE s bits else ∃ (x : Nat), ((bits = bits ∧ (0 : Nat) = (0 : Nat)
  ∧ (0 : Int) = (0 : Int) ∧ (0 : Nat) = (0 : Nat) ∧ (0 : Nat) = (0 : Nat) ∧ (0 : Nat) = (0 : Nat) ∧ s = s ∧ (0 : Int) = (↑x : Int) ∧ (0 : Int) :: List.replicate (nat_lit 7) (0 : Int) = List.replicate (8 : Nat) (0 : Int) ∧
  false = false ∧ (0 : Int) :: List.replicate (nat_lit 7) (0 : Int) = List.replicate (8 : Nat) (0 : Int) ∧ false = false ∧ costF = costF ∧ false = false ∧ x = (0 : Nat) ∧ false = false ∧ pushQ s x = []) ∧ x ≤ (8 : Nat)) ∧ ∀
  (x : Nat), x ≤ (8 : Nat) → (IntKind.min IntKind.i64 ≤ (↑x : Int) ∧ (↑x : Int) ≤ IntKind.max IntKind.i64 ∧ (∀ (y : Ref × Ref), List.Mem y [(Ref.slice (5 : Nat) (Ty.cons (Ty.int IntKind.i64) (Ty.last (Ty.int IntKind.i64)))
  [] (0 : Nat) x, Ref.func (Fn.func (57 : Nat)) [] [])] → True) ∧ ∀ (y : Int × Int), List.Mem y (pushQ s x) → IntKind.min IntKind.i64 ≤ Prod.fst y ∧ Prod.fst y ≤ IntKind.max IntKind.i64 ∧ IntKind.min IntKind.i64 ≤ Prod.snd
  y ∧ Prod.snd y ≤ IntKind.max IntKind.i64) → bif decide ((↑x : Int) < (8 : Int)) then ((0 : Int) ≤ (↑x : Int) ∧ (↑x : Int) < (↑(8 : Nat) : Int)) ∧ (x = List.length (pushQ s x) ∧ x ≤ (1000 : Nat)) ∧ ∃ (y : Nat), (bits =
  bits ∧ (0 : Nat) = (0 : Nat) ∧ (0 : Int) = (0 : Int) ∧ (0 : Nat) = (0 : Nat) ∧ (0 : Nat) = (0 : Nat) ∧ (0 : Nat) = (0 : Nat) ∧ s = s ∧ IntKind.wrap IntKind.i64 ((↑x : Int) + (1 : Int)) = (↑y : Int) ∧ (0 : Int) ::
  List.replicate (nat_lit 7) (0 : Int) = List.replicate (8 : Nat) (0 : Int) ∧ false = false ∧ (0 : Int) :: List.replicate (nat_lit 7) (0 : Int) = List.replicate (8 : Nat) (0 : Int) ∧ false = false ∧ costF = costF ∧ false =
  false ∧ (0 : Nat) = (0 : Nat) ∧ x + (1 : Nat) = y ∧ false = false ∧ pushL ltQ qz (pushQ s x) ((↑x : Int), List.getD s (Int.toNat (↑x : Int)) (0 : Int)) = pushQ s y ∧ false = false) ∧ y ≤ (8 : Nat) ∧ (8 : Nat) - y < (8 :
  Nat) - x else ∃ (x_1 : List (Int × Int) × List Int × Int), ((bits = Prod.snd (Prod.snd x_1) ∧ (0 : Nat) = (0 : Nat) ∧ (0 : Int) = (0 : Int) ∧ (0 : Nat) = (0 : Nat) ∧ (0 : Nat) = (0 : Nat) ∧ (0 : Nat) = (0 : Nat) ∧ (0 :
  Int) :: List.replicate (nat_lit 7) (0 : Int) = List.replicate (8 : Nat) (0 : Int) ∧ false = false ∧ (0 : Int) :: List.replicate (nat_lit 7) (0 : Int) = Prod.fst (Prod.snd x_1) ∧ false = false ∧ costF = costF ∧ false =
  false ∧ (0 : Nat) = (0 : Nat) ∧ x = List.length (Prod.fst x_1) ∧ false = false ∧ pushQ s x = Prod.fst x_1 ∧ false = false) ∧ GI s bits x_1 ∧ giveRun (giveMu x_1) x_1 = giveRun (200 : Nat) (pushQ s (8 : Nat), z8, bits)) ∧
  ∀ (x : List (Int × Int) × List Int × Int), GI s bits x ∧ giveRun (giveMu x) x = giveRun (200 : Nat) (pushQ s (8 : Nat), z8, bits) → (IntKind.min IntKind.i64 ≤ Prod.snd (Prod.snd x) ∧ Prod.snd (Prod.snd x) ≤ IntKind.max
  IntKind.i64 ∧ (∀ (y : List Int), List.Mem y [Prod.fst (Prod.snd x)] → List.length y = (8 : Nat) ∧ ∀ (y_1 : Int), List.Mem y_1 y → IntKind.min IntKind.i64 ≤ y_1 ∧ y_1 ≤ IntKind.max IntKind.i64) ∧ (∀ (y : Ref × Ref),
  List.Mem y [(Ref.slice (6 : Nat) (Ty.cons (Ty.int IntKind.i64) (Ty.last (Ty.int IntKind.i64))) [] (0 : Nat) (List.length (Prod.fst x)), Ref.func (Fn.func (57 : Nat)) [] [])] → True) ∧ ∀ (y : Int × Int), List.Mem y
  (Prod.fst x) → IntKind.min IntKind.i64 ≤ Prod.fst y ∧ Prod.fst y ≤ IntKind.max IntKind.i64 ∧ IntKind.min IntKind.i64 ≤ Prod.snd y ∧ Prod.snd y ≤ IntKind.max IntKind.i64) → bif decide ((0 : Int) < (↑(List.length (Prod.fst
  x)) : Int)) then (List.length (Prod.fst x) = List.length (Prod.fst x) ∧ (0 : Nat) < List.length (Prod.fst x) ∧ List.length (Prod.fst x) ≤ (1000 : Nat)) ∧ (((0 : Int) ≤ Prod.fst (List.getD (Prod.fst x) (0 : Nat) qz) ∧
  Prod.fst (List.getD (Prod.fst x) (0 : Nat) qz) < (↑(8 : Nat) : Int)) ∧ Int.toNat (Prod.fst (List.getD (Prod.fst x) (0 : Nat) qz)) < (8 : Nat)) ∧ ∀ (b : Bool), decide ((12 : Int) ≤ List.getD (Prod.fst (Prod.snd x))
  (Int.toNat (Prod.fst (List.getD (Prod.fst x) (0 : Nat) qz))) (0 : Int)) = b → (((!b) = true → (!b) = true) ∧ ((!b) = true → (!b) = true ∧ (0 : Int) ≤ IntKind.wrap IntKind.i64 (List.getD (Prod.fst (Prod.snd x)) (Int.toNat
  (Prod.fst (List.getD (Prod.fst x) (0 : Nat) qz))) (0 : Int) + (1 : Int)) ∧ IntKind.wrap IntKind.i64 (List.getD (Prod.fst (Prod.snd x)) (Int.toNat (Prod.fst (List.getD (Prod.fst x) (0 : Nat) qz))) (0 : Int) + (1 : Int)) <
  (↑(13 : Nat) : Int)) ∧ ((!b) = true → (!b) = true ∧ Int.toNat (IntKind.wrap IntKind.i64 (List.getD (Prod.fst (Prod.snd x)) (Int.toNat (Prod.fst (List.getD (Prod.fst x) (0 : Nat) qz))) (0 : Int) + (1 : Int))) < (13 : Nat))
  ∧ ((!b) = true → (!b) = true ∧ (0 : Int) ≤ List.getD (Prod.fst (Prod.snd x)) (Int.toNat (Prod.fst (List.getD (Prod.fst x) (0 : Nat) qz))) (0 : Int) ∧ List.getD (Prod.fst (Prod.snd x)) (Int.toNat (Prod.fst (List.getD
  (Prod.fst x) (0 : Nat) qz))) (0 : Int) < (↑(13 : Nat) : Int)) ∧ ((!b) = true → (!b) = true ∧ Int.toNat (List.getD (Prod.fst (Prod.snd x)) (Int.toNat (Prod.fst (List.getD (Prod.fst x) (0 : Nat) qz))) (0 : Int)) < (13 :
  Nat)) ∧ ((!b) = true → (!b) = true ∧ (!b) = true) ∧ ((!b) = true → (!b) = true ∧ (!b) = true) ∧ (b = false → (!b) = true)) ∧ bif bif b then true else decide (Prod.snd (Prod.snd x) < IntKind.wrap IntKind.i64 (List.getD
  costF (Int.toNat (IntKind.wrap IntKind.i64 (List.getD (Prod.fst (Prod.snd x)) (Int.toNat (Prod.fst (List.getD (Prod.fst x) (0 : Nat) qz))) (0 : Int) + (1 : Int)))) (0 : Int) - List.getD costF (Int.toNat (List.getD
  (Prod.fst (Prod.snd x)) (Int.toNat (Prod.fst (List.getD (Prod.fst x) (0 : Nat) qz))) (0 : Int))) (0 : Int))) then ∃ (y : List (Int × Int) × List Int × Int), (Prod.snd (Prod.snd x) = Prod.snd (Prod.snd y) ∧ (0 : Nat) = (0
  : Nat) ∧ (0 : Int) = (0 : Int) ∧ (0 : Nat) = (0 : Nat) ∧ (0 : Nat) = (0 : Nat) ∧ (0 : Nat) = (0 : Nat) ∧ (0 : Int) :: List.replicate (nat_lit 7) (0 : Int) = List.replicate (8 : Nat) (0 : Int) ∧ false = false ∧ Prod.fst
  (Prod.snd x) = Prod.fst (Prod.snd y) ∧ false = false ∧ costF = costF ∧ false = false ∧ (0 : Nat) = (0 : Nat) ∧ List.length (Prod.fst x) - (1 : Nat) = List.length (Prod.fst y) ∧ false = false ∧ popL ltQ qz (Prod.fst x) =
  Prod.fst y ∧ false = false) ∧ (GI s bits y ∧ giveRun (giveMu y) y = giveRun (200 : Nat) (pushQ s (8 : Nat), z8, bits)) ∧ giveMu y < giveMu x else (((0 : Int) ≤ IntKind.wrap IntKind.i64 (List.getD (Prod.fst (Prod.snd x))
  (Int.toNat (Prod.fst (List.getD (Prod.fst x) (0 : Nat) qz))) (0 : Int) + (1 : Int)) ∧ IntKind.wrap IntKind.i64 (List.getD (Prod.fst (Prod.snd x)) (Int.toNat (Prod.fst (List.getD (Prod.fst x) (0 : Nat) qz))) (0 : Int) + (1
  : Int)) < (↑(13 : Nat) : Int)) ∧ Int.toNat (IntKind.wrap IntKind.i64 (List.getD (Prod.fst (Prod.snd x)) (Int.toNat (Prod.fst (List.getD (Prod.fst x) (0 : Nat) qz))) (0 : Int) + (1 : Int))) < (13 : Nat) ∧ ((0 : Int) ≤
  List.getD (Prod.fst (Prod.snd x)) (Int.toNat (Prod.fst (List.getD (Prod.fst x) (0 : Nat) qz))) (0 : Int) ∧ List.getD (Prod.fst (Prod.snd x)) (Int.toNat (Prod.fst (List.getD (Prod.fst x) (0 : Nat) qz))) (0 : Int) < (↑(13 :
  Nat) : Int)) ∧ Int.toNat (List.getD (Prod.fst (Prod.snd x)) (Int.toNat (Prod.fst (List.getD (Prod.fst x) (0 : Nat) qz))) (0 : Int)) < (13 : Nat)) ∧ (((0 : Int) ≤ Prod.fst (List.getD (Prod.fst x) (0 : Nat) qz) ∧ Prod.fst
  (List.getD (Prod.fst x) (0 : Nat) qz) < (↑(8 : Nat) : Int)) ∧ Int.toNat (Prod.fst (List.getD (Prod.fst x) (0 : Nat) qz)) < (8 : Nat) ∧ ((0 : Int) ≤ Prod.fst (List.getD (Prod.fst x) (0 : Nat) qz) ∧ Prod.fst (List.getD
  (Prod.fst x) (0 : Nat) qz) < (↑(8 : Nat) : Int)) ∧ Int.toNat (Prod.fst (List.getD (Prod.fst x) (0 : Nat) qz)) < (8 : Nat)) ∧ (List.length (Prod.fst x) - (1 : Nat) = List.length (popL ltQ qz (Prod.fst x)) ∧ List.length
  (Prod.fst x) - (1 : Nat) ≤ (1000 : Nat)) ∧ ∃ (y : List (Int × Int) × List Int × Int), (IntKind.wrap IntKind.i64 (Prod.snd (Prod.snd x) - IntKind.wrap IntKind.i64 (List.getD costF (Int.toNat (IntKind.wrap IntKind.i64
  (List.getD (Prod.fst (Prod.snd x)) (Int.toNat (Prod.fst (List.getD (Prod.fst x) (0 : Nat) qz))) (0 : Int) + (1 : Int)))) (0 : Int) - List.getD costF (Int.toNat (List.getD (Prod.fst (Prod.snd x)) (Int.toNat (Prod.fst
  (List.getD (Prod.fst x) (0 : Nat) qz))) (0 : Int))) (0 : Int))) = Prod.snd (Prod.snd y) ∧ (0 : Nat) = (0 : Nat) ∧ (0 : Int) = (0 : Int) ∧ (0 : Nat) = (0 : Nat) ∧ (0 : Nat) = (0 : Nat) ∧ (0 : Nat) = (0 : Nat) ∧ (0 : Int)
  :: List.replicate (nat_lit 7) (0 : Int) = List.replicate (8 : Nat) (0 : Int) ∧ false = false ∧ List.set (Prod.fst (Prod.snd x)) (Int.toNat (Prod.fst (List.getD (Prod.fst x) (0 : Nat) qz))) (IntKind.wrap IntKind.i64
  (List.getD (Prod.fst (Prod.snd x)) (Int.toNat (Prod.fst (List.getD (Prod.fst x) (0 : Nat) qz))) (0 : Int) + (1 : Int))) = Prod.fst (Prod.snd y) ∧ false = false ∧ costF = costF ∧ false = false ∧ (0 : Nat) = (0 : Nat) ∧
  List.length (Prod.fst x) - (1 : Nat) + (1 : Nat) = List.length (Prod.fst y) ∧ false = false ∧ pushL ltQ qz (popL ltQ qz (Prod.fst x)) (Prod.fst (List.getD (Prod.fst x) (0 : Nat) qz), IntKind.wrap IntKind.i64 (Prod.snd
  (List.getD (Prod.fst x) (0 : Nat) qz) - (1 : Int))) = Prod.fst y ∧ false = false) ∧ (GI s bits y ∧ giveRun (giveMu y) y = giveRun (200 : Nat) (pushQ s (8 : Nat), z8, bits)) ∧ giveMu y < giveMu x else Prod.fst (Prod.snd x)
  = giveV s bits ∧ (0 : Int) = giveE s bits
theorem vc57 (s : List Int) (bits : Int) : P57 s bits = vcFun C57 (ann57 s bits) Go.Proofs.Try.f29 [⟨.arr 8 (.int .i64), s⟩, ⟨.int .i64, bits⟩] [] (out57 s bits) := by kernel_rfl

noncomputable def C62 : Ctx := ⟨Go.Proofs.Try.prog, D, G57, meth18, fun _ => []⟩
def ann62 (s : List Int) (bits : Int) : Nat → St → Option Ann := fun id S => match id with | 0 => some ⟨Nat, [1, 2, 4, 5], [0, 1], fun i => [(6, .v (.int .i64) (i : Int))], fun i => [(2, some ⟨false, true, .arr 13 (.int .i64), [costF.take i ++ (List.replicate 13 0).drop i]⟩)], fun i => i ≤ 13, fun i => 13 - i⟩ | 2 => some ⟨Nat × List Int × Int, [2, 4, 5, 7], [0, 1, 2], fun x => [(1, .v (.int .i64) x.2.2)], fun x => [(3, some ⟨false, true, .arr 8 (.int .i64), [x.2.1]⟩)], fun x => RI bits x.2 ∧ x.1 ≤ 100 ∧ 96 - sumK x.2.1 < x.1 ∧ refRun s x.1 x.2 = refF s bits, fun x => x.1⟩ | _ => some ⟨Nat, [1, 2, 4, 5, 7], [0, 1, 2, 3], fun b => [(9, .v (.int .i64) (b : Int)), (8, .v (.int .i64) (bestTo s (S.x 3 (.arr 8 (.int .i64))) (S.i 1) b))], fun _ => [], fun b => b ≤ 8, fun b => 8 - b⟩
def out62 (s : List Int) (bits : Int) : COut := ⟨[rightF s = true, 0 ≤ bits ∧ bits ≤ 1048576], .v (.arr 8 (.int .i64)) (refF s bits), [], []⟩
def sp62 : Spec := fun args ins => match args, ins with
  | [⟨.arr 8 (.int .i64), s⟩, ⟨.int .i64, bits⟩], [] => some (out62 s bits)
  | _, _ => none
def G62 := addG G57 18 sp62
def P62 (s : List Int) (bits : Int) : Prop :=
  ∃ (x : Nat), ((bits = bits ∧ (0 : Nat) = (0 : Nat) ∧ (0 : Nat) = (0 : Nat) ∧ (0 : Nat) = (0 : Nat) ∧ (0 : Int) = (↑x : Int) ∧ s = s ∧ false = false ∧ (0 : Int) :: List.replicate (nat_lit 7) (0 : Int) = List.replicate (8 :
  Nat) (0 : Int) ∧ false = false ∧ (0 : Int) :: List.replicate (nat_lit 12) (0 : Int) = List.take x costF ++ List.drop x (List.replicate (13 : Nat) (0 : Int)) ∧ false = false) ∧ x ≤ (13 : Nat)) ∧ ∀ (x : Nat), x ≤ (13 : Nat)
  → (IntKind.min IntKind.i64 ≤ (↑x : Int) ∧ (↑x : Int) ≤ IntKind.max IntKind.i64 ∧ ∀ (y : List Int), List.Mem y [List.take x costF ++ List.drop x (List.replicate (13 : Nat) (0 : Int))] → List.length y = (13 : Nat) ∧ ∀ (y_1
  : Int), List.Mem y_1 y → IntKind.min IntKind.i64 ≤ y_1 ∧ y_1 ≤ IntKind.max IntKind.i64) → bif decide ((↑x : Int) < (13 : Int)) then (((0 : Int) ≤ (↑x : Int) ∧ (↑x : Int) ≤ (12 : Int)) ∧ ((0 : Int) ≤ (↑x : Int) ∧ (↑x :
  Int) < (↑(13 : Nat) : Int)) ∧ Int.toNat (↑x : Int) < (13 : Nat)) ∧ ∃ (y : Nat), (bits = bits ∧ (0 : Nat) = (0 : Nat) ∧ (0 : Nat) = (0 : Nat) ∧ (0 : Nat) = (0 : Nat) ∧ IntKind.wrap IntKind.i64 ((↑x : Int) + (1 : Int)) =
  (↑y : Int) ∧ s = s ∧ false = false ∧ (0 : Int) :: List.replicate (nat_lit 7) (0 : Int) = List.replicate (8 : Nat) (0 : Int) ∧ false = false ∧ List.set (List.take x costF ++ List.drop x (List.replicate (13 : Nat) (0 :
  Int))) (Int.toNat (↑x : Int)) (bitsF (↑x : Int)) = List.take y costF ++ List.drop y (List.replicate (13 : Nat) (0 : Int)) ∧ false = false) ∧ y ≤ (13 : Nat) ∧ (13 : Nat) - y < (13 : Nat) - x else ∃ (x_1 : Nat × List Int ×
  Int), ((bits = Prod.snd (Prod.snd x_1) ∧ (0 : Nat) = (0 : Nat) ∧ (0 : Nat) = (0 : Nat) ∧ (0 : Nat) = (0 : Nat) ∧ (0 : Nat) = (0 : Nat) ∧ s = s ∧ false = false ∧ (0 : Int) :: List.replicate (nat_lit 7) (0 : Int) =
  List.replicate (8 : Nat) (0 : Int) ∧ false = false ∧ List.append (List.take x costF) (List.drop x (List.replicate (13 : Nat) (0 : Int))) = List.take x costF ++ List.drop x (List.replicate (13 : Nat) (0 : Int)) ∧ false =
  false ∧ (0 : Int) :: List.replicate (nat_lit 7) (0 : Int) = Prod.fst (Prod.snd x_1) ∧ false = false) ∧ RI bits (Prod.snd x_1) ∧ Prod.fst x_1 ≤ (100 : Nat) ∧ (96 : Int) - sumK (Prod.fst (Prod.snd x_1)) < (↑(Prod.fst x_1) :
  Int) ∧ refRun s (Prod.fst x_1) (Prod.snd x_1) = refF s bits) ∧ ∀ (x_2 : Nat × List Int × Int), RI bits (Prod.snd x_2) ∧ Prod.fst x_2 ≤ (100 : Nat) ∧ (96 : Int) - sumK (Prod.fst (Prod.snd x_2)) < (↑(Prod.fst x_2) : Int) ∧
  refRun s (Prod.fst x_2) (Prod.snd x_2) = refF s bits → (IntKind.min IntKind.i64 ≤ Prod.snd (Prod.snd x_2) ∧ Prod.snd (Prod.snd x_2) ≤ IntKind.max IntKind.i64 ∧ ∀ (y : List Int), List.Mem y [Prod.fst (Prod.snd x_2)] →
  List.length y = (8 : Nat) ∧ ∀ (y_1 : Int), List.Mem y_1 y → IntKind.min IntKind.i64 ≤ y_1 ∧ y_1 ≤ IntKind.max IntKind.i64) → ∃ (x_3 : Nat), ((Prod.snd (Prod.snd x_2) = Prod.snd (Prod.snd x_2) ∧ (0 : Nat) = (0 : Nat) ∧ (0
  : Nat) = (0 : Nat) ∧ (0 : Nat) = (0 : Nat) ∧ (0 : Nat) = (0 : Nat) ∧ (-1 : Int) = bestTo s (Prod.fst (Prod.snd x_2)) (Prod.snd (Prod.snd x_2)) x_3 ∧ (0 : Int) = (↑x_3 : Int) ∧ s = s ∧ false = false ∧ (0 : Int) ::
  List.replicate (nat_lit 7) (0 : Int) = List.replicate (8 : Nat) (0 : Int) ∧ false = false ∧ List.append (List.take x costF) (List.drop x (List.replicate (13 : Nat) (0 : Int))) = List.take x costF ++ List.drop x
  (List.replicate (13 : Nat) (0 : Int)) ∧ false = false ∧ Prod.fst (Prod.snd x_2) = Prod.fst (Prod.snd x_2) ∧ false = false) ∧ x_3 ≤ (8 : Nat)) ∧ ∀ (x_4 : Nat), x_4 ≤ (8 : Nat) → IntKind.min IntKind.i64 ≤ (↑x_4 : Int) ∧
  (↑x_4 : Int) ≤ IntKind.max IntKind.i64 ∧ IntKind.min IntKind.i64 ≤ bestTo s (Prod.fst (Prod.snd x_2)) (Prod.snd (Prod.snd x_2)) x_4 ∧ bestTo s (Prod.fst (Prod.snd x_2)) (Prod.snd (Prod.snd x_2)) x_4 ≤ IntKind.max
  IntKind.i64 → bif decide ((↑x_4 : Int) < (8 : Int)) then ∀ (b : Bool), decide (List.getD (Prod.fst (Prod.snd x_2)) (Int.toNat (↑x_4 : Int)) (0 : Int) < (12 : Int)) = b → ∀ (b_1 : Bool), (bif b then decide (IntKind.wrap
  IntKind.i64 (List.getD (List.take x costF ++ List.drop x (List.replicate (13 : Nat) (0 : Int))) (Int.toNat (IntKind.wrap IntKind.i64 (List.getD (Prod.fst (Prod.snd x_2)) (Int.toNat (↑x_4 : Int)) (0 : Int) + (1 : Int))))
  (0 : Int) - List.getD (List.take x costF ++ List.drop x (List.replicate (13 : Nat) (0 : Int))) (Int.toNat (List.getD (Prod.fst (Prod.snd x_2)) (Int.toNat (↑x_4 : Int)) (0 : Int))) (0 : Int)) ≤ Prod.snd (Prod.snd x_2))
  else false) = b_1 → ∀ (b_2 : Bool), decide (bestTo s (Prod.fst (Prod.snd x_2)) (Prod.snd (Prod.snd x_2)) x_4 < (0 : Int)) = b_2 → (((0 : Int) ≤ (↑x_4 : Int) ∧ (↑x_4 : Int) < (↑(8 : Nat) : Int)) ∧ Int.toNat (↑x_4 : Int) <
  (8 : Nat) ∧ (b = true → b = true ∧ (0 : Int) ≤ (↑x_4 : Int) ∧ (↑x_4 : Int) < (↑(8 : Nat) : Int)) ∧ (b = true → b = true ∧ Int.toNat (↑x_4 : Int) < (8 : Nat)) ∧ (b = true → b = true) ∧ (b = true → b = true ∧ (0 : Int) ≤
  IntKind.wrap IntKind.i64 (List.getD (Prod.fst (Prod.snd x_2)) (Int.toNat (↑x_4 : Int)) (0 : Int) + (1 : Int)) ∧ IntKind.wrap IntKind.i64 (List.getD (Prod.fst (Prod.snd x_2)) (Int.toNat (↑x_4 : Int)) (0 : Int) + (1 : Int))
  < (↑(13 : Nat) : Int)) ∧ (b = true → b = true ∧ Int.toNat (IntKind.wrap IntKind.i64 (List.getD (Prod.fst (Prod.snd x_2)) (Int.toNat (↑x_4 : Int)) (0 : Int) + (1 : Int))) < (13 : Nat)) ∧ (b = true → b = true ∧ (0 : Int) ≤
  (↑x_4 : Int) ∧ (↑x_4 : Int) < (↑(8 : Nat) : Int)) ∧ (b = true → b = true ∧ Int.toNat (↑x_4 : Int) < (8 : Nat)) ∧ (b = true → b = true ∧ (0 : Int) ≤ List.getD (Prod.fst (Prod.snd x_2)) (Int.toNat (↑x_4 : Int)) (0 : Int) ∧
  List.getD (Prod.fst (Prod.snd x_2)) (Int.toNat (↑x_4 : Int)) (0 : Int) < (↑(13 : Nat) : Int)) ∧ (b = true → b = true ∧ Int.toNat (List.getD (Prod.fst (Prod.snd x_2)) (Int.toNat (↑x_4 : Int)) (0 : Int)) < (13 : Nat)) ∧ (b
  = true → b = true ∧ b = true) ∧ (b = true → b = true ∧ b = true) ∧ (b = true → b = true) ∧ (b_1 = true → b_1 = true) ∧ ((b_1 && b_1 && !b_2) = true → (b_1 && b_1 && !b_2) = true ∧ (0 : Int) ≤ (↑x_4 : Int) ∧ (↑x_4 : Int) <
  (↑(8 : Nat) : Int)) ∧ ((b_1 && b_1 && !b_2) = true → (b_1 && b_1 && !b_2) = true ∧ Int.toNat (↑x_4 : Int) < (8 : Nat)) ∧ ((b_1 && b_1 && !b_2) = true → (b_1 && b_1 && !b_2) = true ∧ (0 : Int) ≤ (↑x_4 : Int) ∧ (↑x_4 : Int)
  < (↑(8 : Nat) : Int)) ∧ ((b_1 && b_1 && !b_2) = true → (b_1 && b_1 && !b_2) = true ∧ Int.toNat (↑x_4 : Int) < (8 : Nat)) ∧ ((b_1 && b_1 && !b_2) = true → (b_1 && b_1 && !b_2) = true ∧ (b_1 && b_1 && !b_2) = true) ∧ ((b_1
  && b_1 && !b_2) = true → (b_1 && b_1 && !b_2) = true ∧ (0 : Int) ≤ bestTo s (Prod.fst (Prod.snd x_2)) (Prod.snd (Prod.snd x_2)) x_4 ∧ bestTo s (Prod.fst (Prod.snd x_2)) (Prod.snd (Prod.snd x_2)) x_4 < (↑(8 : Nat) : Int))
  ∧ ((b_1 && b_1 && !b_2) = true → (b_1 && b_1 && !b_2) = true ∧ Int.toNat (bestTo s (Prod.fst (Prod.snd x_2)) (Prod.snd (Prod.snd x_2)) x_4) < (8 : Nat)) ∧ ((b_1 && b_1 && !b_2) = true → (b_1 && b_1 && !b_2) = true ∧ (0 :
  Int) ≤ bestTo s (Prod.fst (Prod.snd x_2)) (Prod.snd (Prod.snd x_2)) x_4 ∧ bestTo s (Prod.fst (Prod.snd x_2)) (Prod.snd (Prod.snd x_2)) x_4 < (↑(8 : Nat) : Int)) ∧ ((b_1 && b_1 && !b_2) = true → (b_1 && b_1 && !b_2) = true
  ∧ Int.toNat (bestTo s (Prod.fst (Prod.snd x_2)) (Prod.snd (Prod.snd x_2)) x_4) < (8 : Nat)) ∧ ((b_1 && b_1 && !b_2) = true → (b_1 && b_1 && !b_2) = true ∧ (b_1 && b_1 && !b_2) = true) ∧ ((b_1 && b_1 && !b_2) = true → (b_1
  && b_1 && !b_2) = true ∧ (b_1 && b_1 && !b_2) = true) ∧ (b_1 = true → (b_1 && b_1) = true ∧ (b_2 = false → (b_1 && b_1 && !b_2) = true)) ∧ (b_1 = true → b_1 = true)) ∧ bif bif b_1 then bif b_2 then true else decide
  (IntKind.wrap IntKind.i64 (List.getD s (Int.toNat (bestTo s (Prod.fst (Prod.snd x_2)) (Prod.snd (Prod.snd x_2)) x_4)) (0 : Int) - List.getD (Prod.fst (Prod.snd x_2)) (Int.toNat (bestTo s (Prod.fst (Prod.snd x_2))
  (Prod.snd (Prod.snd x_2)) x_4)) (0 : Int)) < IntKind.wrap IntKind.i64 (List.getD s (Int.toNat (↑x_4 : Int)) (0 : Int) - List.getD (Prod.fst (Prod.snd x_2)) (Int.toNat (↑x_4 : Int)) (0 : Int))) else false then ∃ (y : Nat),
  (Prod.snd (Prod.snd x_2) = Prod.snd (Prod.snd x_2) ∧ (0 : Nat) = (0 : Nat) ∧ (0 : Nat) = (0 : Nat) ∧ (0 : Nat) = (0 : Nat) ∧ (0 : Nat) = (0 : Nat) ∧ (↑x_4 : Int) = bestTo s (Prod.fst (Prod.snd x_2)) (Prod.snd (Prod.snd
  x_2)) y ∧ IntKind.wrap IntKind.i64 ((↑x_4 : Int) + (1 : Int)) = (↑y : Int) ∧ s = s ∧ false = false ∧ (0 : Int) :: List.replicate (nat_lit 7) (0 : Int) = List.replicate (8 : Nat) (0 : Int) ∧ false = false ∧ List.append
  (List.take x costF) (List.drop x (List.replicate (13 : Nat) (0 : Int))) = List.take x costF ++ List.drop x (List.replicate (13 : Nat) (0 : Int)) ∧ false = false ∧ Prod.fst (Prod.snd x_2) = Prod.fst (Prod.snd x_2) ∧ false
  = false) ∧ y ≤ (8 : Nat) ∧ (8 : Nat) - y < (8 : Nat) - x_4 else ∃ (y : Nat), (Prod.snd (Prod.snd x_2) = Prod.snd (Prod.snd x_2) ∧ (0 : Nat) = (0 : Nat) ∧ (0 : Nat) = (0 : Nat) ∧ (0 : Nat) = (0 : Nat) ∧ (0 : Nat) = (0 :
  Nat) ∧ bestTo s (Prod.fst (Prod.snd x_2)) (Prod.snd (Prod.snd x_2)) x_4 = bestTo s (Prod.fst (Prod.snd x_2)) (Prod.snd (Prod.snd x_2)) y ∧ IntKind.wrap IntKind.i64 ((↑x_4 : Int) + (1 : Int)) = (↑y : Int) ∧ s = s ∧ false =
  false ∧ (0 : Int) :: List.replicate (nat_lit 7) (0 : Int) = List.replicate (8 : Nat) (0 : Int) ∧ false = false ∧ List.append (List.take x costF) (List.drop x (List.replicate (13 : Nat) (0 : Int))) = List.take x costF ++
  List.drop x (List.replicate (13 : Nat) (0 : Int)) ∧ false = false ∧ Prod.fst (Prod.snd x_2) = Prod.fst (Prod.snd x_2) ∧ false = false) ∧ y ≤ (8 : Nat) ∧ (8 : Nat) - y < (8 : Nat) - x_4 else bif decide (bestTo s (Prod.fst
  (Prod.snd x_2)) (Prod.snd (Prod.snd x_2)) x_4 < (0 : Int)) then Prod.fst (Prod.snd x_2) = refF s bits else (((0 : Int) ≤ bestTo s (Prod.fst (Prod.snd x_2)) (Prod.snd (Prod.snd x_2)) x_4 ∧ bestTo s (Prod.fst (Prod.snd
  x_2)) (Prod.snd (Prod.snd x_2)) x_4 < (↑(8 : Nat) : Int)) ∧ Int.toNat (bestTo s (Prod.fst (Prod.snd x_2)) (Prod.snd (Prod.snd x_2)) x_4) < (8 : Nat) ∧ ((0 : Int) ≤ IntKind.wrap IntKind.i64 (List.getD (Prod.fst (Prod.snd
  x_2)) (Int.toNat (bestTo s (Prod.fst (Prod.snd x_2)) (Prod.snd (Prod.snd x_2)) x_4)) (0 : Int) + (1 : Int)) ∧ IntKind.wrap IntKind.i64 (List.getD (Prod.fst (Prod.snd x_2)) (Int.toNat (bestTo s (Prod.fst (Prod.snd x_2))
  (Prod.snd (Prod.snd x_2)) x_4)) (0 : Int) + (1 : Int)) < (↑(13 : Nat) : Int)) ∧ Int.toNat (IntKind.wrap IntKind.i64 (List.getD (Prod.fst (Prod.snd x_2)) (Int.toNat (bestTo s (Prod.fst (Prod.snd x_2)) (Prod.snd (Prod.snd
  x_2)) x_4)) (0 : Int) + (1 : Int))) < (13 : Nat) ∧ ((0 : Int) ≤ bestTo s (Prod.fst (Prod.snd x_2)) (Prod.snd (Prod.snd x_2)) x_4 ∧ bestTo s (Prod.fst (Prod.snd x_2)) (Prod.snd (Prod.snd x_2)) x_4 < (↑(8 : Nat) : Int)) ∧
  Int.toNat (bestTo s (Prod.fst (Prod.snd x_2)) (Prod.snd (Prod.snd x_2)) x_4) < (8 : Nat) ∧ ((0 : Int) ≤ List.getD (Prod.fst (Prod.snd x_2)) (Int.toNat (bestTo s (Prod.fst (Prod.snd x_2)) (Prod.snd (Prod.snd x_2)) x_4)) (0
  : Int) ∧ List.getD (Prod.fst (Prod.snd x_2)) (Int.toNat (bestTo s (Prod.fst (Prod.snd x_2)) (Prod.snd (Prod.snd x_2)) x_4)) (0 : Int) < (↑(13 : Nat) : Int)) ∧ Int.toNat (List.getD (Prod.fst (Prod.snd x_2)) (Int.toNat
  (bestTo s (Prod.fst (Prod.snd x_2)) (Prod.snd (Prod.snd x_2)) x_4)) (0 : Int)) < (13 : Nat)) ∧ (((0 : Int) ≤ bestTo s (Prod.fst (Prod.snd x_2)) (Prod.snd (Prod.snd x_2)) x_4 ∧ bestTo s (Prod.fst (Prod.snd x_2)) (Prod.snd
  (Prod.snd x_2)) x_4 < (↑(8 : Nat) : Int)) ∧ Int.toNat (bestTo s (Prod.fst (Prod.snd x_2)) (Prod.snd (Prod.snd x_2)) x_4) < (8 : Nat) ∧ ((0 : Int) ≤ bestTo s (Prod.fst (Prod.snd x_2)) (Prod.snd (Prod.snd x_2)) x_4 ∧ bestTo
  s (Prod.fst (Prod.snd x_2)) (Prod.snd (Prod.snd x_2)) x_4 < (↑(8 : Nat) : Int)) ∧ Int.toNat (bestTo s (Prod.fst (Prod.snd x_2)) (Prod.snd (Prod.snd x_2)) x_4) < (8 : Nat)) ∧ ∃ (y : Nat × List Int × Int), (IntKind.wrap
  IntKind.i64 (IntKind.wrap IntKind.i64 (Prod.snd (Prod.snd x_2) - List.getD (List.take x costF ++ List.drop x (List.replicate (13 : Nat) (0 : Int))) (Int.toNat (IntKind.wrap IntKind.i64 (List.getD (Prod.fst (Prod.snd x_2))
  (Int.toNat (bestTo s (Prod.fst (Prod.snd x_2)) (Prod.snd (Prod.snd x_2)) x_4)) (0 : Int) + (1 : Int)))) (0 : Int)) + List.getD (List.take x costF ++ List.drop x (List.replicate (13 : Nat) (0 : Int))) (Int.toNat (List.getD
  (Prod.fst (Prod.snd x_2)) (Int.toNat (bestTo s (Prod.fst (Prod.snd x_2)) (Prod.snd (Prod.snd x_2)) x_4)) (0 : Int))) (0 : Int)) = Prod.snd (Prod.snd y) ∧ (0 : Nat) = (0 : Nat) ∧ (0 : Nat) = (0 : Nat) ∧ (0 : Nat) = (0 :
  Nat) ∧ (0 : Nat) = (0 : Nat) ∧ s = s ∧ false = false ∧ (0 : Int) :: List.replicate (nat_lit 7) (0 : Int) = List.replicate (8 : Nat) (0 : Int) ∧ false = false ∧ List.append (List.take x costF) (List.drop x (List.replicate
  (13 : Nat) (0 : Int))) = List.take x costF ++ List.drop x (List.replicate (13 : Nat) (0 : Int)) ∧ false = false ∧ List.set (Prod.fst (Prod.snd x_2)) (Int.toNat (bestTo s (Prod.fst (Prod.snd x_2)) (Prod.snd (Prod.snd x_2))
  x_4)) (IntKind.wrap IntKind.i64 (List.getD (Prod.fst (Prod.snd x_2)) (Int.toNat (bestTo s (Prod.fst (Prod.snd x_2)) (Prod.snd (Prod.snd x_2)) x_4)) (0 : Int) + (1 : Int))) = Prod.fst (Prod.snd y) ∧ false = false) ∧ (RI
  bits (Prod.snd y) ∧ Prod.fst y ≤ (100 : Nat) ∧ (96 : Int) - sumK (Prod.fst (Prod.snd y)) < (↑(Prod.fst y) : Int) ∧ refRun s (Prod.fst y) (Prod.snd y) = refF s bits) ∧ Prod.fst y < Prod.fst x_2
theorem vc62 (s : List Int) (bits : Int) : P62 s bits = vcFun C62 (ann62 s bits) Go.Proofs.Try.f18 [⟨.arr 8 (.int .i64), s⟩, ⟨.int .i64, bits⟩] [] (out62 s bits) := by kernel_rfl

end Go.SL.A

/- The document's vectors of four are those of the code, in order. -/
namespace Go.SL.A
open Go Go.SL Go.SL.S

/-- All vectors of n numbers with K pulses, in order. -/
def allV : Nat → Nat → List (List Int)
  | 0, K => if K = 0 then [[]] else []
  | n + 1, K => (numsF K).flatMap fun z => (allV n (K - (sz13 z).toNat)).map (z :: ·)

def allW (n : Nat) (L : Int) : List (List Int) := if L < 0 then [] else allV n L.toNat

theorem nums_sz {K : Nat} (hK : K ≤ 12) {z : Int} (h : z ∈ numsF K) : szR z = sz13 z ∧ 0 ≤ sz13 z ∧ sz13 z ≤ K := by
  have h1 := szR_nums hK h
  have h2 := mem_numsF.1 h
  have h3 := sz13_small (z := z) (by omega) (by omega)
  rw [h3]; omega

theorem flat_nil {α β : Type} {f : α → List β} : ∀ {l : List α}, (∀ x ∈ l, f x = []) → l.flatMap f = []
  | [], _ => rfl
  | x :: l, h => by rw [List.flatMap_cons, h x (by simp), flat_nil fun y hy => h y (by simp [hy])]; rfl

theorem flat_congr {α β : Type} {f g : α → List β} : ∀ {l : List α}, (∀ x ∈ l, f x = g x) → l.flatMap f = l.flatMap g
  | [], _ => rfl
  | x :: l, h => by rw [List.flatMap_cons, List.flatMap_cons, h x (by simp), flat_congr fun y hy => h y (by simp [hy])]

theorem flat_cut {β : Type} {f : Int → List β} {L : Nat} : ∀ (d : Nat), (∀ z, ((L : Int) < z ∨ z < -(L : Int)) → f z = []) → (numsF (L + d)).flatMap f = (numsF L).flatMap f
  | 0, _ => rfl
  | d + 1, h => by
    rw [← Nat.add_assoc, numsF, List.flatMap_append, flat_cut d h, flat_nil (l := [_, _])]
    · simp
    · intro z hz
      simp only [List.mem_cons, List.not_mem_nil, or_false] at hz
      exact h z (by omega)

theorem allW_succ {n K : Nat} (hK : K ≤ 12) {L : Int} (hL : L ≤ K) : (numsF K).flatMap (fun z => (allW n (L - szR z)).map (z :: ·)) = allW (n + 1) L := by
  by_cases h0 : L < 0
  · rw [allW, if_pos h0]
    refine flat_nil fun z hz => ?_
    have := nums_sz hK hz
    rw [allW, if_pos (by omega)]; rfl
  · obtain ⟨M, rfl⟩ : ∃ M : Nat, L = M := ⟨L.toNat, by omega⟩
    rw [allW, if_neg h0, Int.toNat_natCast, allV]
    have e : (numsF K).flatMap (fun z => (allW n ((M : Int) - szR z)).map (z :: ·)) = (numsF K).flatMap (fun z => if sz13 z ≤ M then (allV n (M - (sz13 z).toNat)).map (z :: ·) else []) := by
      refine flat_congr fun z hz => ?_
      obtain ⟨z1, z2, z3⟩ := nums_sz hK hz
      rw [z1, allW]
      by_cases hz2 : sz13 z ≤ M
      · rw [if_neg (by omega), if_pos hz2, show ((M : Int) - sz13 z).toNat = M - (sz13 z).toNat by omega]
      · rw [if_pos (by omega), if_neg hz2]; rfl
    rw [e, show K = M + (K - M) by omega, flat_cut]
    · refine flat_congr fun z hz => ?_
      obtain ⟨z1, z2, z3⟩ := nums_sz (by omega) hz
      rw [if_pos z3]
    · intro z hz
      rw [if_neg]
      unfold sz13
      split <;> omega

theorem allV_one : ∀ L : Nat, L ≤ 12 → allV 1 L = if 0 < L then [[(L : Int)], [-(L : Int)]] else [[(L : Int)]]
  | 0, _ => by decide
  | L + 1, h => by
    rw [allV, numsF, List.flatMap_append, flat_nil (l := numsF L), if_pos (by omega)]
    · have e1 : sz13 ((L + 1 : Nat) : Int) = ((L + 1 : Nat) : Int) := by rw [sz13_small (by omega) (by omega)]; omega
      have e2 : sz13 (-((L + 1 : Nat) : Int)) = ((L + 1 : Nat) : Int) := by rw [sz13_small (by omega) (by omega)]; omega
      simp only [List.flatMap_cons, List.flatMap_nil, e1, e2, Int.toNat_natCast, Nat.sub_self, allV, if_true, List.map_cons, List.map_nil, List.append_nil, List.nil_append, List.singleton_append]
    · intro z hz
      obtain ⟨z1, z2, z3⟩ := nums_sz (by omega) hz
      rw [allV, if_neg (by omega)]; rfl

theorem row_eq {K : Nat} (hK : K ≤ 12) {x y z : Int} (hx : x ∈ numsF K) (hy : y ∈ numsF K) (hz : z ∈ numsF K) : rowF K x y z = (allW 1 ((K : Int) - szR x - szR y - szR z)).map (fun v => x :: y :: z :: v) := by
  have h1 := szR_nums hK hx
  have h2 := szR_nums hK hy
  have h3 := szR_nums hK hz
  unfold rowF allW
  generalize hL : (K : Int) - szR x - szR y - szR z = L
  by_cases h0 : L < 0
  · rw [if_pos h0, if_pos h0]; rfl
  · rw [if_neg h0, if_neg h0, allV_one _ (by omega)]
    by_cases h4 : 0 < L
    · rw [if_pos h4, if_pos (by omega), show ((L.toNat : Nat) : Int) = L by omega]; rfl
    · rw [if_neg h4, if_neg (by omega), show ((L.toNat : Nat) : Int) = L by omega]; rfl

theorem all_eq {K : Nat} (hK : K ≤ 12) : allF K = allV 4 K := by
  have hl := numsF_len K
  have r2 : ∀ x ∈ numsF K, ∀ y ∈ numsF K, rows2 K (numsF K) x y = (allW 2 ((K : Int) - szR x - szR y)).map (fun v => x :: y :: v) := fun x hx y hy => by
    have h1 := szR_nums hK hx
    have h2 := szR_nums hK hy
    rw [← allW_succ (n := 1) hK (L := (K : Int) - szR x - szR y) (by omega), List.map_flatMap]
    unfold rows2
    refine flat_congr fun z hz => ?_
    rw [row_eq hK hx hy hz, List.map_map]; rfl
  have r1 : ∀ x ∈ numsF K, rows1 K (numsF K) x = (allW 3 ((K : Int) - szR x)).map (fun v => x :: v) := fun x hx => by
    have h1 := szR_nums hK hx
    rw [← allW_succ (n := 2) hK (L := (K : Int) - szR x) (by omega), List.map_flatMap]
    unfold rows1
    refine flat_congr fun y hy => ?_
    rw [r2 x hx y hy, List.map_map]; rfl
  have e : allW 4 (K : Int) = allV 4 K := by unfold allW; rw [if_neg (by omega), Int.toNat_natCast]
  rw [← e, ← allW_succ (n := 3) hK (L := (K : Int)) (by omega)]
  unfold allF stA
  rw [List.take_of_length_le (by omega)]
  exact flat_congr fun x hx => r1 x hx

theorem flat_at {α β : Type} {f : α → List β} {d : β} {e : α} : ∀ {l : List α} {p j : Nat}, p < l.length → j < (f (l.getD p e)).length → (l.flatMap f).getD (((l.take p).flatMap f).length + j) d = (f (l.getD p e)).getD j d
  | [], p, j, h, _ => by simp at h
  | x :: l, 0, j, h, hj => by
    have hj : j < (f x).length := hj
    rw [List.take_zero, List.flatMap_nil, List.length_nil, Nat.zero_add, List.flatMap_cons, List.getD_eq_getElem?_getD, List.getElem?_append_left hj, ← List.getD_eq_getElem?_getD]; rfl
  | x :: l, p + 1, j, h, hj => by
    have hj : j < (f (l.getD p e)).length := hj
    have := flat_at (d := d) (l := l) (p := p) (by simpa using h) hj
    rw [List.take_succ_cons, List.flatMap_cons, List.flatMap_cons, List.length_append, List.getD_eq_getElem?_getD, List.getElem?_append_right (by omega), ← List.getD_eq_getElem?_getD,
      show (f x).length + ((l.take p).flatMap f).length + j - (f x).length = ((l.take p).flatMap f).length + j by omega, this]; rfl

theorem allV_len : ∀ {n K : Nat}, K ≤ 12 → ((allV n K).length : Int) = cnt n K
  | 0, K, _ => by
    cases K <;> rfl
  | n + 1, K, hK => by
    rw [← sumBy_all hK, allV]
    have : ∀ l : List Int, ((l.flatMap fun z => (allV n (K - (sz13 z).toNat)).map (z :: ·)).length : Int) = sumBy n K l := by
      intro l
      induction l with
      | nil => rfl
      | cons z l ih =>
        rw [List.flatMap_cons, List.length_append, List.length_map, sumBy, ← ih, ← allV_len (n := n) (K := K - (sz13 z).toNat) (by omega)]; simp
    exact this _

theorem flatV_len {n K : Nat} (hK : K ≤ 12) (l : List Int) : ((l.flatMap fun z => (allV n (K - (sz13 z).toNat)).map (z :: ·)).length : Int) = sumBy n K l := by
  induction l with
  | nil => rfl
  | cons z l ih => rw [List.flatMap_cons, List.length_append, List.length_map, sumBy, ← ih, ← allV_len (n := n) (K := K - (sz13 z).toNat) (by omega)]; simp

theorem allV_get : ∀ {n K : Nat} {i : Int}, K ≤ 12 → 0 ≤ i → i < cnt n K → ∀ d, (allV n K).getD i.toNat d = (vst n K i n).2.2
  | 0, K, i, hK, h0, h1, d => by
    cases K with
    | zero =>
      have : i = 0 := by simp [cnt, cnt0] at h1; omega
      subst this; rfl
    | succ K => simp [cnt, cnt0] at h1; omega
  | n + 1, K, i, hK, h0, h1, d => by
    rw [← sumBy_all hK] at h1
    obtain ⟨p, p1, p2, p3, p4⟩ := pick_spec n K (numsF K) i 0 h0 h1
    have hl := numsF_len K
    have hm := getD_mem (d := 0) p1
    have hz := sz13_in hK hm
    have hs := sumBy_take_succ n K p1
    have hf := flatV_len (n := n) hK ((numsF K).take p)
    have hlen := allV_len (n := n) (K := K - (sz13 ((numsF K).getD p 0)).toNat) (by omega)
    have hfirst := vst_first (n := n) (k := (K : Int)) (i := i) (by omega) (by omega) (p := p) (by rw [Int.toNat_natCast]; omega) (by rw [Int.toNat_natCast]; omega) (by rw [Int.toNat_natCast]; omega)
    rw [Int.toNat_natCast] at hfirst
    have hat := flat_at (f := fun z => (allV n (K - (sz13 z).toNat)).map (z :: ·)) (d := d) (e := 0) (l := numsF K) (p := p) (j := (i - sumBy n K ((numsF K).take p)).toNat) p1 (by rw [List.length_map]; omega)
    rw [allV, show i.toNat = ((((numsF K).take p).flatMap fun z => (allV n (K - (sz13 z).toNat)).map (z :: ·)).length + (i - sumBy n K ((numsF K).take p)).toNat) by omega, hat, hfirst]
    generalize (numsF K).getD p 0 = z at *
    have ih := allV_get (n := n) (K := K - (sz13 z).toNat) (i := i - sumBy n K ((numsF K).take p)) (by omega) p3 p4 []
    have e : (K : Int) - sz13 z = ((K - (sz13 z).toNat : Nat) : Int) := by omega
    rw [e, ← ih]
    have hj : (i - sumBy n K ((numsF K).take p)).toNat < (allV n (K - (sz13 z).toNat)).length := by omega
    simp [List.getD_eq_getElem?_getD, hj]

end Go.SL.A

/- What is found, and how far it is: plain laws. -/
namespace Go.SL.A
open Go Go.SL Go.SL.S

theorem hwL14 {c : List Int} {s k : Int} (hw : Go.SL.allP (List.flatMap (fun a : AV => a.t.wf a.x) [⟨.arr 4 (.int .i64), c⟩, ⟨.int .u8, s⟩, ⟨.int .u8, k⟩] ++ List.flatMap Blk.wf [])) : c.length = 4 ∧ (0 ≤ s ∧ s ≤ 255) ∧ 0 ≤ k ∧ k ≤ 255 := by
  simp only [List.flatMap_cons, List.flatMap_nil, Ty.wf, List.append_nil, List.cons_append, List.nil_append, Go.SL.allP] at hw
  exact ⟨hw.1, ⟨hw.2.2.1, hw.2.2.2.1⟩, hw.2.2.2.2.1, hw.2.2.2.2.2⟩
theorem hw19 {k i s : Int} (hw : Go.SL.allP (List.flatMap (fun a : AV => a.t.wf a.x) [⟨.int .u8, k⟩, ⟨.int .u32, i⟩, ⟨.int .u8, s⟩] ++ List.flatMap Blk.wf [])) : (0 ≤ k ∧ k ≤ 255) ∧ (0 ≤ i ∧ i ≤ 4294967295) ∧ 0 ≤ s ∧ s ≤ 255 := by
  simp only [List.flatMap_cons, List.flatMap_nil, Ty.wf, List.append_nil, List.cons_append, List.nil_append, Go.SL.allP] at hw
  exact ⟨⟨hw.1, hw.2.1⟩, ⟨hw.2.2.1, hw.2.2.2.1⟩, hw.2.2.2.2.1, hw.2.2.2.2.2⟩
theorem hw20 {c : List Int} {s k i : Int} (hw : Go.SL.allP (List.flatMap (fun a : AV => a.t.wf a.x) [⟨.arr 4 (.int .i64), c⟩, ⟨.int .u8, s⟩, ⟨.int .u8, k⟩, ⟨.int .u32, i⟩] ++ List.flatMap Blk.wf [])) : c.length = 4 ∧ (0 ≤ s ∧ s ≤ 255) ∧ (0 ≤ k ∧ k ≤ 255) ∧ 0 ≤ i ∧ i ≤ 4294967295 := by
  simp only [List.flatMap_cons, List.flatMap_nil, Ty.wf, List.append_nil, List.cons_append, List.nil_append, Go.SL.allP] at hw
  exact ⟨hw.1, ⟨hw.2.2.1, hw.2.2.2.1⟩, ⟨hw.2.2.2.2.1, hw.2.2.2.2.2.1⟩, hw.2.2.2.2.2.2.1, hw.2.2.2.2.2.2.2⟩

theorem heldL_held (c : List Int) : heldF (heldL c) = true := by
  unfold heldF heldL
  rw [List.all_eq_true]
  intro x hx
  obtain ⟨y, -, rfl⟩ := List.mem_map.1 hx
  have := tdm y (k := 1048577) (by decide)
  simp only [decide_eq_true_eq]; omega
theorem heldL_len {c : List Int} (h : c.length = 4) : (heldL c).length = 4 := by simp [heldL, h]

theorem sz_abs {x : Int} (h : -12 ≤ x ∧ x ≤ 12) : sz13 x = absF x := by rw [sz13_small h.1 h.2]; rfl

theorem sum_sz {y : List Int} (hl : y.length = 4) (hf : ∀ i, -12 ≤ y.getD i 0 ∧ y.getD i 0 ≤ 12) : sumSz y = sumF y := by
  obtain ⟨a, b, c, d, rfl⟩ := len4 hl
  have h0 := hf 0
  have h1 := hf 1
  have h2 := hf 2
  have h3 := hf 3
  simp only [sumSz, sumF] at *
  have e0 := sz_abs h0
  have e1 := sz_abs h1
  have e2 := sz_abs h2
  have e3 := sz_abs h3
  simp only [List.getD_cons_zero, List.getD_cons_succ] at *
  omega

/-- What is found. -/
structure Found (c : List Int) (s k : Int) (y : List Int) : Prop where
  len : y.length = 4
  few : fewF y = true
  sg : ∀ i, i < 4 → sgn (c.getD i 0) (y.getD i 0)
  sum : sumF y = k
  best : ∀ z, sumF z = k → farF c y (gainF s) ≤ farF c z (gainF s)

theorem few_of {y : List Int} (h : ∀ i, -12 ≤ y.getD i 0 ∧ y.getD i 0 ≤ 12) : fewF y = true := by
  unfold fewF
  rw [List.all_eq_true]
  intro x hx
  obtain ⟨i, hi, rfl⟩ := List.mem_iff_getElem.1 hx
  have := h i
  rw [List.getD_eq_getElem?_getD, List.getElem?_eq_getElem hi] at this
  simpa using this

theorem findV_ok {c : List Int} {s k : Int} (hh : heldF c = true) (hs : 0 ≤ s ∧ s ≤ 15) (hk : 0 ≤ k ∧ k ≤ 12) : findE c s k = 0 ∧ Found c s k (findV c s k) := by
  have hg := gain_pos hs
  have hE : findE c s k = 0 := by
    unfold findE
    rw [if_neg (by omega), hh, if_pos rfl]
  have F := FI.iter c (g := gainF s) (by omega) k.toNat
  have hb := find_best c (g := gainF s) (by omega) k.toNat
  have hV : findV c s k = findF c (gainF s) k.toNat := by unfold findV; rw [if_pos hE]
  refine ⟨hE, ?_⟩
  rw [hV]
  have hs := F.sum
  have hl := F.len
  have hsg := F.sg
  change (findF c (gainF s) k.toNat).length = 4 at hl
  change absF ((findF c (gainF s) k.toNat).getD 0 0) + absF ((findF c (gainF s) k.toNat).getD 1 0) + absF ((findF c (gainF s) k.toNat).getD 2 0) + absF ((findF c (gainF s) k.toNat).getD 3 0) = _ at hs
  change ∀ i, i < 4 → sgn (c.getD i 0) ((findF c (gainF s) k.toNat).getD i 0) at hsg
  generalize findF c (gainF s) k.toNat = y at *
  refine ⟨hl, few_of fun i => ?_, hsg, by unfold sumF; omega, fun z hz => hb z (by rw [hz]; omega)⟩
  have a0 := absF_le (y.getD 0 0)
  have a1 := absF_le (y.getD 1 0)
  have a2 := absF_le (y.getD 2 0)
  have a3 := absF_le (y.getD 3 0)
  match i with
  | 0 => omega
  | 1 => omega
  | 2 => omega
  | 3 => omega
  | i + 4 => rw [List.getD_eq_getElem?_getD, List.getElem?_eq_none (by omega)]; simp

theorem Found.pulses {c : List Int} {s k : Int} {y : List Int} (h : Found c s k y) (hk : k ≤ 12) : pulsesF y = k := by
  unfold pulsesF
  rw [if_neg (by rw [h.len]; decide), sum_sz h.len (fewF_at h.few), h.sum]; omega

theorem farTo_far {c y : List Int} {s : Int} (hs : 0 ≤ s ∧ s ≤ 15) (hf : fewF y = true) : farTo c (coefF y s) 4 = farF c y (gainF s) := by
  have hm : mayF14 y s = true := by unfold mayF14; rw [hf, Bool.true_and, decide_eq_true_eq]; exact gain_pos hs
  rw [coefF_may hm]
  simp only [farTo, farF, getD_map0]; omega

theorem distF_far {c y : List Int} {s : Int} (hs : 0 ≤ s ∧ s ≤ 15) (hf : fewF y = true) (hh : heldF c = true) : distF c y s = farF c y (gainF s) := by
  have hm : mayF14 y s = true := by unfold mayF14; rw [hf, Bool.true_and, decide_eq_true_eq]; exact gain_pos hs
  unfold distF
  rw [hm, hh]
  exact farTo_far hs hf

/-- A vector of four numbers. -/
theorem vec4 {k i : Int} (hk : 0 ≤ k ∧ k ≤ 12) (hi : 0 ≤ i) (hi2 : i < countF 4 k) : vecE 4 k i = 0 ∧ (vecF 4 k i).length = 4 ∧ fewF (vecF 4 k i) = true ∧ sumF (vecF 4 k i) = k := by
  obtain ⟨v1, v2, v3, v4, v5, v6⟩ := vec_ok (n := 4) (k := k) (i := i) (by omega) hi hi2
  have hl : (vecF 4 k i).length = 4 := by omega
  have hm := vst_ok (n := 4) (k := k) (i := i) (by omega) hk.1 hk.2 hi (by
    unfold countF at hi2; rw [if_pos (may_iff.2 (by omega))] at hi2; exact hi2) 4 (by omega)
  have hr := hm.1.rng
  have hv : vecF 4 k i = (vst 4 k i 4).2.2 := by unfold vecF; rw [if_pos ⟨may_iff.2 (by omega), hi, hi2⟩]; rfl
  have hf : ∀ j, -12 ≤ (vecF 4 k i).getD j 0 ∧ (vecF 4 k i).getD j 0 ≤ 12 := by
    intro j
    rw [hv] at hl ⊢
    by_cases hj : j < ((vst 4 k i 4).2.2).length
    · exact hr _ (getD_mem hj)
    · rw [List.getD_eq_getElem?_getD, List.getElem?_eq_none (by omega)]; simp
  exact ⟨v1, hl, few_of hf, by rw [← sum_sz hl hf]; exact v3⟩
end Go.SL.A

/- Give: how many pulses each band has, by the program and by the document. -/
namespace Go.SL.A
open Go Go.SL Go.SL.S

theorem hw57 {s : List Int} {bits : Int} (hw : Go.SL.allP (List.flatMap (fun a : AV => a.t.wf a.x) [⟨.arr 8 (.int .i64), s⟩, ⟨.int .i64, bits⟩] ++ List.flatMap Blk.wf [])) : s.length = 8 := by
  simp only [List.flatMap_cons, List.flatMap_nil, Ty.wf, List.append_nil, List.cons_append, List.nil_append, Go.SL.allP] at hw
  exact hw.1

theorem right_at {s : List Int} (h : rightF s = true) (b : Nat) : 0 ≤ s.getD b 0 ∧ s.getD b 0 ≤ 15 := by
  by_cases hb : b < s.length
  · unfold rightF at h
    simp only [Bool.not_eq_true', List.any_eq_false] at h
    have := h _ (getD_mem (d := 0) hb)
    unfold badF at this
    simp only [Bool.or_eq_true, decide_eq_true_eq] at this; omega
  · rw [List.getD_eq_getElem?_getD, List.getElem?_eq_none (by omega)]; simp

theorem giveE_no {s : List Int} {bits : Int} (h : ¬ (rightF s = false ∨ bits < 0 ∨ 1048576 < bits)) : giveE s bits = 0 := by unfold giveE; rw [if_neg h]
theorem giveE_yes {s : List Int} {bits : Int} (h : rightF s = false ∨ bits < 0 ∨ 1048576 < bits) : giveE s bits = 1 := by unfold giveE; rw [if_pos h]

theorem pure57 (s : List Int) (bits : Int) (_hl : s.length = 8) : P57 s bits := by
  unfold P57
  intro b hb b1 hb1
  refine ⟨by cases b <;> cases b1 <;> simp, ?_⟩
  by_cases harg : rightF s = false ∨ bits < 0 ∨ 1048576 < bits
  · have e1 : (bif b1 then true else decide (1048576 < bits)) = true := by
      rw [← hb1, ← hb]
      by_cases h1 : rightF s = false
      · simp [h1]
      · by_cases h2 : bits < 0
        · simp [h2]
        · have h3 : 1048576 < bits := by rcases harg with h | h | h <;> first | exact h | exact absurd h h1 | exact absurd h h2
          simp [h3]
    have hE := giveE_yes harg
    rw [e1, cond_true]
    unfold giveV
    rw [hE, if_neg (by decide)]
    exact ⟨rfl, rfl⟩
  · have h1 : rightF s = true := by
      cases h : rightF s with
      | true => rfl
      | false => exact absurd (Or.inl h) harg
    have h2 : 0 ≤ bits ∧ bits ≤ 1048576 := by
      constructor
      · exact Int.not_lt.1 fun h => harg (.inr (.inl h))
      · exact Int.not_lt.1 fun h => harg (.inr (.inr h))
    have e1 : (bif b1 then true else decide (1048576 < bits)) = false := by
      rw [← hb1, ← hb, h1]
      have a1 : ¬ bits < 0 := by omega
      have a2 : ¬ 1048576 < bits := by omega
      simp [a1, a2]
    have hE := giveE_no harg
    have hV : giveV s bits = (giveRun 200 (pushQ s 8, z8, bits)).2.1 := by unfold giveV; rw [if_pos hE]; rfl
    rw [e1, cond_false, hV, hE]
    clear hb hb1 e1
    simp only [eq_self, true_and, and_true, Int.toNat_natCast]
    refine ⟨0, ⟨⟨rfl, rfl, rfl, rfl, rfl⟩, by omega⟩, fun i hi _ => ?_⟩
    by_cases h8 : (i : Int) < 8
    · simp only [h8, decide_true, cond_true]
      exact ⟨by omega, ⟨(pushQ_len s i).symm, by omega⟩, i + 1, ⟨step_i (by omega), rfl, rfl, rfl, rfl⟩, by omega, by omega⟩
    · have : i = 8 := by omega
      subst this
      simp only [h8, decide_false, cond_false]
      refine ⟨(pushQ s 8, z8, bits), ⟨⟨rfl, rfl, rfl, (pushQ_len s 8).symm, rfl⟩, GI.init s h2.1, by rw [giveMu_init]⟩, fun x hx _ => ?_⟩
      obtain ⟨G, he⟩ := hx
      by_cases h0 : (0 : Int) < ((x.1.length : Nat) : Int)
      · simp only [h0, decide_true, cond_true]
        have h0' : 0 < x.1.length := by omega
        obtain ⟨G2, hmu⟩ := G.step h0'
        have hlen := G.len
        obtain ⟨c, hc, e, -⟩ := G.top h0'
        have hk := G.kr c hc
        have hs := right_at h1 c
        have hb0 := G.b0
        have hsum := G.sum
        have hsC := sumC_fits x.2.1
        have hstep : giveRun (giveMu (giveStep x)) (giveStep x) = giveRun 200 (pushQ s 8, z8, bits) := by
          rw [← he]
          obtain ⟨m, hm⟩ : ∃ m, giveMu x = m + 1 := ⟨giveMu x - 1, by omega⟩
          rw [hm, giveRun_step h0', (giveRun_fuel m _ G2 (by omega)).1]
        have hpl := pop_len ltQ qz h0'
        have hz : ((0 : Int), (0 : Int)) = qz := rfl
        simp only [e, Int.toNat_natCast]
        rw [w64 (n := x.2.1.getD c 0 + 1) (by omega) (by omega)]
        refine ⟨⟨by omega, by omega⟩, ⟨⟨by omega, by omega⟩, by omega⟩, ?_⟩
        intro d hd
        have hd' : d = false → x.2.1.getD c 0 < 12 := by
          intro hdf
          rw [hdf] at hd
          simpa using hd
        have hd2 : (!d) = true → x.2.1.getD c 0 < 12 := fun h => hd' (by cases d with
          | true => cases h
          | false => rfl)
        refine ⟨⟨fun h => h, fun h => ⟨h, by have := hd2 h; omega⟩, fun h => ⟨h, by have := hd2 h; omega⟩, fun h => ⟨h, by have := hd2 h; omega⟩, fun h => ⟨h, by have := hd2 h; omega⟩, fun h => ⟨h, h⟩, fun h => ⟨h, h⟩, fun h => by rw [h]; rfl⟩, ?_⟩
        have hcond : (bif d then true else decide (x.2.2 < IntKind.i64.wrap (costF.getD (x.2.1.getD c 0 + 1).toNat 0 - costF.getD (x.2.1.getD c 0).toNat 0))) = noMore (x.2.1.getD c 0) x.2.2 := by
          unfold noMore
          rw [hd]
          cases d with
          | true => rfl
          | false =>
            have hm := more_nn hk.1 (hd' rfl)
            unfold moreF at hm ⊢
            rw [w64 (by omega) (by omega)]; rfl
        rw [hcond]
        cases hn : noMore (x.2.1.getD c 0) x.2.2 with
        | true =>
          simp only [cond_true]
          have e2 : giveStep x = (popL ltQ qz x.1, x.2.1, x.2.2) := by
            unfold giveStep; simp only [e, Int.toNat_natCast, hn, if_true]
          rw [e2] at G2 hmu hstep
          exact ⟨(popL ltQ qz x.1, x.2.1, x.2.2), ⟨rfl, rfl, rfl, hpl.symm, rfl⟩, ⟨G2, hstep⟩, hmu⟩
        | false =>
          simp only [cond_false]
          have hn' : x.2.1.getD c 0 < 12 ∧ moreF (x.2.1.getD c 0) ≤ x.2.2 := feas_iff.2 hn
          have hm := more_nn hk.1 hn'.1
          have e2 : giveStep x = (pushL ltQ qz (popL ltQ qz x.1) ((c : Int), s.getD c 0 - x.2.1.getD c 0 - 1), x.2.1.set c (x.2.1.getD c 0 + 1), x.2.2 - moreF (x.2.1.getD c 0)) := by
            unfold giveStep; simp only [e, Int.toNat_natCast, hn]; rfl
          rw [e2] at G2 hmu hstep
          have w1 : IntKind.i64.wrap (costF.getD (x.2.1.getD c 0 + 1).toNat 0 - costF.getD (x.2.1.getD c 0).toNat 0) = moreF (x.2.1.getD c 0) := by
            unfold moreF at hm ⊢; exact w64 (by omega) (by omega)
          rw [w1, w64 (n := x.2.2 - moreF (x.2.1.getD c 0)) (by omega) (by omega), w64 (n := s.getD c 0 - x.2.1.getD c 0 - 1) (by omega) (by omega)]
          refine ⟨⟨⟨by omega, by omega⟩, by omega, ⟨by omega, by omega⟩, by omega⟩, ⟨⟨by omega, by omega⟩, by omega, ⟨by omega, by omega⟩, by omega⟩, ⟨hpl.symm, by omega⟩, _, ⟨rfl, rfl, rfl, ?_, rfl⟩, ⟨G2, hstep⟩, hmu⟩
          simp only [pushL_len, hpl]
      · simp only [h0, decide_false, cond_false]
        have hx : x.1 = [] := List.eq_nil_of_length_eq_zero (by omega)
        rw [giveRun_nil _ x hx] at he
        rw [← he]

theorem pure62 (s : List Int) (bits : Int) (h1 : rightF s = true) (h2 : 0 ≤ bits ∧ bits ≤ 1048576) (_hl : s.length = 8) : P62 s bits := by
  unfold P62
  simp only [eq_self, true_and, and_true, Int.toNat_natCast]
  refine ⟨0, ⟨⟨rfl, rfl, rfl⟩, by omega⟩, fun i hi _ => ?_⟩
  by_cases h13 : (i : Int) < 13
  · simp only [h13, decide_true, cond_true]
    exact ⟨⟨by omega, by omega, by omega⟩, i + 1, ⟨step_i (by omega), rfl, set_step (by rw [costF_len]; omega) (by simp; omega) (costF_at (by omega))⟩, by omega, by omega⟩
  · have eC : List.take i costF ++ List.drop i (List.replicate 13 (0 : Int)) = costF := cost_end (by omega)
    have eC' : List.append (List.take i costF) (List.drop i (List.replicate 13 (0 : Int))) = costF := eC
    simp only [h13, decide_false, cond_false, eC, eC', eq_self, true_and, and_true]
    refine ⟨(100, z8, bits), ⟨⟨rfl, rfl, rfl⟩, ⟨rfl, fun b _ => by simp only [z8_at]; omega, h2.1, Int.le_refl _⟩, by show (100 : Nat) ≤ 100; decide, by show 96 - sumK z8 < ((100 : Nat) : Int); decide, rfl⟩, fun x hx _ => ?_⟩
    obtain ⟨f, k, m⟩ := x
    obtain ⟨R, hf, hsk, he⟩ := hx
    simp only at R hf hsk he ⊢
    have hm0 := R.b0
    have hm1 := R.b1
    simp only at hm0 hm1
    have hkr := R.kr
    have hkl := R.klen
    simp only at hkr hkl
    refine ⟨0, ⟨⟨rfl, rfl, rfl⟩, by omega⟩, fun b hb _ => ?_⟩
    by_cases h8 : (b : Int) < 8
    · simp only [h8, decide_true, cond_true]
      have hk := hkr b (by omega)
      have hs := right_at h1 b
      rw [w64 (n := k.getD b 0 + 1) (by omega) (by omega)]
      intro p hp q hq r hr
      have hp12 : p = true → k.getD b 0 < 12 := fun hpt => by rw [hpt] at hp; simpa using hp
      have hqf : q = true ↔ feas k m b := by
        unfold feas
        rw [← hq]
        cases p with
        | true =>
          have hk12 := hp12 rfl
          have hmm := more_nn hk.1 hk12
          unfold moreF at hmm ⊢
          rw [w64 (by omega) (by omega), cond_true, decide_eq_true_eq]
          exact ⟨fun h => ⟨hk12, h⟩, fun h => h.2⟩
        | false =>
          have : ¬ k.getD b 0 < 12 := by simpa using hp
          rw [cond_false]
          exact ⟨fun h => (by cases h), fun h => absurd h.1 this⟩
      have hbc := best_cases s k m b
      have hrr : r = true ↔ bestTo s k m b < 0 := by rw [← hr]; simp
      have hbest : (q && q && !r) = true → ∃ c : Nat, c < b ∧ bestTo s k m b = (c : Int) := by
        intro h
        have hrf : r = false := by cases r <;> simp_all
        rcases hbc with ⟨h3, _⟩ | ⟨c, h3, h4, _⟩
        · have := hrr.2 (by omega); rw [hrf] at this; cases this
        · exact ⟨c, h3, h4⟩
      have bnd : (q && q && !r) = true → 0 ≤ bestTo s k m b ∧ bestTo s k m b < ((8 : Nat) : Int) ∧ (bestTo s k m b).toNat < 8 := by
        intro h
        obtain ⟨c, h3, h4⟩ := hbest h
        rw [h4]; omega
      have hv : (bif q then bif r then true else decide (IntKind.i64.wrap (s.getD (bestTo s k m b).toNat 0 - k.getD (bestTo s k m b).toNat 0) < IntKind.i64.wrap (s.getD b 0 - k.getD b 0)) else false) = true ↔
          (k.getD b 0 < 12 ∧ moreF (k.getD b 0) ≤ m ∧ (bestTo s k m b < 0 ∨ s.getD (bestTo s k m b).toNat 0 - k.getD (bestTo s k m b).toNat 0 < s.getD b 0 - k.getD b 0)) := by
        cases q with
        | false =>
          simp only [cond_false, Bool.false_eq_true, false_iff]
          rintro ⟨h3, h4, -⟩
          have := hqf.2 ⟨h3, h4⟩
          cases this
        | true =>
          obtain ⟨h3, h4⟩ := hqf.1 rfl
          cases r with
          | true => simp only [cond_true, true_iff]; exact ⟨h3, h4, .inl (hrr.1 rfl)⟩
          | false =>
            obtain ⟨c, h5, h6⟩ := hbest rfl
            have hkc := hkr c (by omega)
            have hsc := right_at h1 c
            rw [h6]
            simp only [Int.toNat_natCast, cond_true, cond_false, decide_eq_true_eq]
            rw [w64 (n := s.getD c 0 - k.getD c 0) (by omega) (by omega), w64 (n := s.getD b 0 - k.getD b 0) (by omega) (by omega)]
            constructor
            · intro h; exact ⟨h3, h4, .inr h⟩
            · rintro ⟨-, -, h | h⟩
              · omega
              · exact h
      have e8 : ((8 : Nat) : Int) = 8 := rfl
      refine ⟨⟨by omega, by omega, fun h => ⟨h, by omega⟩, fun h => ⟨h, by omega⟩, fun h => h, fun h => ⟨h, by have := hp12 h; omega⟩, fun h => ⟨h, by have := hp12 h; omega⟩, fun h => ⟨h, by omega⟩, fun h => ⟨h, by omega⟩, fun h => ⟨h, by omega⟩, fun h => ⟨h, by omega⟩, fun h => ⟨h, h⟩, fun h => ⟨h, h⟩, fun h => h, fun h => h,
        fun h => ⟨h, by omega⟩, fun h => ⟨h, by omega⟩, fun h => ⟨h, by omega⟩, fun h => ⟨h, by omega⟩, fun h => ⟨h, h⟩, fun h => ⟨h, by have := bnd h; omega⟩, fun h => ⟨h, by have := bnd h; omega⟩, fun h => ⟨h, by have := bnd h; omega⟩, fun h => ⟨h, by have := bnd h; omega⟩, fun h => ⟨h, h⟩, fun h => ⟨h, h⟩, fun h => ?_, fun h => h⟩, ?_⟩
      · subst h; refine ⟨rfl, fun h => by subst h; rfl⟩
      · have hnext : bestTo s k m (b + 1) = if k.getD b 0 < 12 ∧ moreF (k.getD b 0) ≤ m ∧ (bestTo s k m b < 0 ∨ s.getD (bestTo s k m b).toNat 0 - k.getD (bestTo s k m b).toNat 0 < s.getD b 0 - k.getD b 0) then (b : Int) else bestTo s k m b := rfl
        generalize hV : (bif q then bif r then true else decide (IntKind.i64.wrap (s.getD (bestTo s k m b).toNat 0 - k.getD (bestTo s k m b).toNat 0) < IntKind.i64.wrap (s.getD b 0 - k.getD b 0)) else false) = V at hv
        cases V with
        | true =>
          rw [if_pos (hv.1 rfl)] at hnext
          simp only [cond_true]
          exact ⟨b + 1, ⟨hnext.symm, step_i (by omega), rfl⟩, by omega, by omega⟩
        | false =>
          rw [if_neg (fun h => by have := hv.2 h; cases this)] at hnext
          simp only [cond_false]
          exact ⟨b + 1, ⟨hnext.symm, step_i (by omega), rfl⟩, by omega, by omega⟩
    · have : b = 8 := by omega
      subst this
      simp only [h8, decide_false, cond_false]
      by_cases hneg : bestTo s k m 8 < 0
      · simp only [hneg, decide_true, cond_true]
        rw [← he, refRun_stop (by exact hneg)]
      · simp only [hneg, decide_false, cond_false]
        rcases best_cases s k m 8 with ⟨h3, _⟩ | ⟨c, h3, h4, h5⟩
        · omega
        · rw [h4]
          simp only [Int.toNat_natCast]
          have hkc := hkr c h3
          have hmm := more_nn hkc.1 h5.1
          have h6 := h5.2
          rw [w64 (n := k.getD c 0 + 1) (by omega) (by omega)]
          have hcl : c < k.length := by omega
          have cost_fit : ∀ j, 0 ≤ costF.getD j 0 ∧ costF.getD j 0 ≤ 10000000000 := by
            intro j
            by_cases hj : j < 13
            · rw [List.getD_eq_getElem?_getD, costF_at hj]; exact bitsF_fits _
            · rw [List.getD_eq_getElem?_getD, List.getElem?_eq_none (by rw [costF_len]; omega)]; simp
          have c1 := cost_fit (k.getD c 0 + 1).toNat
          have c2 := cost_fit (k.getD c 0).toNat
          have hw : IntKind.i64.wrap (IntKind.i64.wrap (m - costF.getD (k.getD c 0 + 1).toNat 0) + costF.getD (k.getD c 0).toNat 0) = m - moreF (k.getD c 0) := by
            unfold moreF
            rw [w64 (n := m - costF.getD (k.getD c 0 + 1).toNat 0) (by omega) (by omega), w64 (by omega) (by omega)]; omega
          rw [hw]
          have hset := set_at k c
          have h51 := h5.1
          refine ⟨⟨⟨by omega, by omega⟩, by omega, ⟨by omega, by omega⟩, by omega, ⟨by omega, by omega⟩, by omega, ⟨by omega, by omega⟩, by omega⟩, ⟨⟨by omega, by omega⟩, by omega, ⟨by omega, by omega⟩, by omega⟩, (f - 1, k.set c (k.getD c 0 + 1), m - moreF (k.getD c 0)), ⟨rfl, rfl, rfl⟩, ⟨⟨by simp only [List.length_set]; exact hkl, fun d hd => ?_, by simp only; omega, by simp only; omega⟩, by simp only; omega, ?_, ?_⟩, ?_⟩
          · simp only [hset d _ hcl]
            split
            · have := h5.1; omega
            · exact hkr d hd
          · simp only [sumK_set _ _ _ hcl]
            have hsl := sumK_le k (fun d hd => (hkr d (by omega)).2)
            rw [hkl] at hsl
            omega
          · have hsl := sumK_le k (fun d hd => (hkr d (by omega)).2)
            rw [hkl] at hsl
            obtain ⟨g, rfl⟩ : ∃ g, f = g + 1 := ⟨f - 1, by omega⟩
            rw [← he, refRun, if_neg (by simp only; omega)]
            simp only [h4, Int.toNat_natCast, Nat.add_sub_cancel]
          · have hsl := sumK_le k (fun d hd => (hkr d (by omega)).2)
            rw [hkl] at hsl
            simp only; omega

end Go.SL.A

/- Packets: what is laid is read as it was, and what is read is laid as it was. -/
namespace Go.SL.A
open Go Go.SL Go.SL.S
set_option maxRecDepth 100000

/-- What a right shape is. -/
structure RtP (s : SHQ) (n : Int) : Prop where
  sz : 12 ≤ n ∧ n ≤ 24
  rt : rightF s.1 = true
  row : ∀ b : Nat, b < 8 → pulsesF (s.2.getD b (List.replicate 4 0)) = (giveV s.1 (giveB n)).getD b 0
theorem giveB_ne {n : Int} : giveB n ≠ 0 ↔ 12 ≤ n ∧ n ≤ 24 := by unfold giveB; split <;> omega
theorem giveB_eq {n : Int} (h : 12 ≤ n ∧ n ≤ 24) : giveB n = 8 * n - 64 := by unfold giveB; rw [if_neg (by omega)]
theorem packR_iff {s : SHQ} {n : Int} : packR s n = true ↔ RtP s n := by
  unfold packR
  constructor
  · intro h
    split at h
    · cases h
    · rename_i hn
      have h1 := giveB_ne.1 (fun e => hn (Or.inl e))
      refine ⟨h1, ?_, fun b hb => of_decide_eq_true (List.all_eq_true.1 h b (List.mem_range.2 hb))⟩
      cases hr : rightF s.1 with
      | true => rfl
      | false => exact absurd (Or.inr hr) hn
  · intro h
    rw [if_neg (by rw [h.rt]; have := giveB_ne.2 h.sz; simp [this])]
    exact List.all_eq_true.2 fun b hb => decide_eq_true (h.row b (List.mem_range.1 hb))
theorem sumC_eight {k : List Int} (h : k.length = 8) : sumC k = bitsF (k.getD 0 0) + bitsF (k.getD 1 0) + bitsF (k.getD 2 0) + bitsF (k.getD 3 0) + bitsF (k.getD 4 0) + bitsF (k.getD 5 0) + bitsF (k.getD 6 0) + bitsF (k.getD 7 0) := by
  match k, h with
  | [a, b, c, d, e, f, g, i], _ => simp [sumC]; omega
theorem cost_bits (k : Int) : bitsF k = ((bitsK k : Nat) : Int) := by
  unfold bitsK bitsF; simp
/-- What is given: few pulses for each band, and bits enough for their numbers. -/
theorem give_fit {S : List Int} {n : Int} (hS : rightF S = true) (hn : 12 ≤ n ∧ n ≤ 24) : (giveV S (giveB n)).length = 8 ∧ (∀ b, b < 8 → 0 ≤ (giveV S (giveB n)).getD b 0 ∧ (giveV S (giveB n)).getD b 0 ≤ 12) ∧ (offK (giveV S (giveB n)) 8 : Int) ≤ 8 * (n - 2) := by
  have hB := giveB_eq hn
  have e : giveV S (giveB n) = giveF S (giveB n) := by
    unfold giveV giveE
    rw [if_pos (by rw [if_neg]; rw [hS, hB]; simp; omega)]
  rw [e]
  obtain ⟨left, h1, h2, h3, h4⟩ := give_end S (B := giveB n) (by omega)
  generalize giveF S (giveB n) = k at *
  have hk := fun b hb => (h4 b hb).1
  refine ⟨h2, hk, ?_⟩
  rw [sumC_eight h2, cost_bits, cost_bits, cost_bits, cost_bits, cost_bits, cost_bits, cost_bits, cost_bits] at h3
  simp only [offK]
  omega
theorem offK_mono (k : List Int) : ∀ {a b : Nat}, a ≤ b → offK k a ≤ offK k b := by
  intro a b h
  induction b with
  | zero => rw [Nat.le_zero.1 h]; exact Nat.le_refl _
  | succ b ih =>
    by_cases e : a = b + 1
    · rw [e]; exact Nat.le_refl _
    · exact Nat.le_trans (ih (by omega)) (Nat.le_add_right _ _)

theorem flat_bit {α : Type} {f : α → List Int} (h : ∀ x, Bit (f x)) (l : List α) : Bit (l.flatMap f) := fun y hy => by
  obtain ⟨x, -, hx⟩ := List.mem_flatMap.1 hy
  exact h x y hx
theorem layB_bit (f : Int) (s : SHQ) : Bit (layB f s) := bit_app (bit_app (bitsN_bit _ _) (flat_bit (fun _ => bitsN_bit _ _) _)) (flat_bit (fun _ => bitsN_bit _ _) _)
theorem sideB_len {S : List Int} : (sideB S).length = 4 * S.length := by
  induction S with
  | nil => rfl
  | cons a S ih => unfold sideB at *; rw [List.flatMap_cons, List.length_append, ih, bitsN_len, List.length_cons]; omega
theorem sideB_drop (S : List Int) : ∀ b, (sideB S).drop (4 * b) = sideB (S.drop b) := by
  induction S with
  | nil => intro b; unfold sideB; simp
  | cons a S ih =>
    intro b
    cases b with
    | zero => rfl
    | succ b =>
      have e : sideB (a :: S) = bitsN a 4 ++ sideB S := rfl
      rw [e, List.drop_append, List.drop_eq_nil_of_le (by rw [bitsN_len]; omega), List.nil_append, bitsN_len, show 4 * (b + 1) - 4 = 4 * b by omega, ih b, List.drop_succ_cons]
theorem rowsB_split (Y : List (List Int)) (b : Nat) : rowsB Y = rowsB (Y.take b) ++ rowsB (Y.drop b) := by
  unfold rowsB; rw [← List.flatMap_append, List.take_append_drop]
theorem rowsB_take (Y : List (List Int)) {b : Nat} (hb : b < Y.length) : rowsB (Y.take (b + 1)) = rowsB (Y.take b) ++ rowB (Y.getD b (List.replicate 4 0)) := by
  unfold rowsB
  rw [take_snoc' (List.replicate 4 0) hb, List.flatMap_append]; simp
theorem sideB_take (S : List Int) {b : Nat} (hb : b < S.length) : sideB (S.take (b + 1)) = sideB (S.take b) ++ bitsN (S.getD b 0) 4 := by
  unfold sideB
  rw [take_snoc' 0 hb, List.flatMap_append]; simp
theorem get_mid (A B C : List Int) : getN (A ++ (B ++ C)) A.length B.length = numB B := by
  unfold getN; rw [List.drop_left, List.take_left]
theorem get_at {U A B C : List Int} {i n : Nat} (h : U = A ++ (B ++ C)) (hi : A.length = i) (hn : B.length = n) : getN U i n = numB B := by
  subst hi; subst hn; rw [h]; exact get_mid A B C
theorem bitLen_lt (m : Nat) : m < 2 ^ bitLen m := by
  unfold bitLen
  split
  · omega
  · exact Nat.lt_log2_self
/-- A vector's number, and what comes of it. -/
theorem index_row {y : List Int} {k : Int} (hl : y.length = 4) (hk : 0 ≤ k ∧ k ≤ 12) (hp : pulsesF y = k) : 0 ≤ (indexF y).1 ∧ (indexF y).1 < countF 4 k ∧ (indexF y).1 < 2 ^ bitsK k ∧ vecF 4 k (indexF y).1 = y ∧ (indexF y).2 = 0 := by
  have h0 : (indexF y).2 = 0 := by unfold indexF; rw [if_neg (by omega)]
  obtain ⟨-, h2, h3, h4, h5, h6, h7⟩ := index_ok h0
  rw [hl] at h6 h7
  have hs : sumSz y = k := by omega
  rw [hs] at h6 h7
  have e : (indexF y).1 = numF y := by rw [h4]
  rw [e]
  refine ⟨h5, h6, ?_, h7, h0⟩
  have hb : bitsK k = bitLen (countF 4 k - 1).toNat := by unfold bitsK bitsF; exact Int.toNat_natCast _
  have := bitLen_lt (countF 4 k - 1).toNat
  rw [hb]
  have e2 : ((2 ^ bitLen (countF 4 k - 1).toNat : Nat) : Int) = (2 : Int) ^ bitLen (countF 4 k - 1).toNat := by simp
  have h6 : numF y < countF 4 k := h6
  rw [← e2]
  generalize 2 ^ bitLen (countF 4 k - 1).toNat = P at this ⊢
  omega
theorem layB_len {s : SHQ} {n f : Int} (h : RtP s n) (l1 : s.1.length = 8) (l8 : s.2.length = 8) : ∀ b, b ≤ 8 → (bitsN f 16 ++ sideB s.1 ++ rowsB (s.2.take b)).length = offK (giveV s.1 (giveB n)) b := by
  intro b
  induction b with
  | zero => intro _; rw [List.length_append, List.length_append, bitsN_len, sideB_len, l1]; rfl
  | succ b ih =>
    intro hb
    rw [rowsB_take _ (by omega), ← List.append_assoc, List.length_append, ih (by omega), offK]
    congr 1
    unfold rowB
    rw [bitsN_len, h.row b (by omega)]
theorem layB_all {s : SHQ} {n f : Int} (h : RtP s n) (l1 : s.1.length = 8) (l8 : s.2.length = 8) : (layB f s).length = offK (giveV s.1 (giveB n)) 8 := by
  rw [← layB_len (f := f) h l1 l8 8 (Nat.le_refl _), List.take_of_length_le (by omega)]; rfl
theorem body_eq {s : SHQ} {n f : Int} (hn : 12 ≤ n) (hl : ((layB f s).length : Int) ≤ 8 * (n - 2)) : bodyS f s n = packB (layB f s ++ List.replicate (8 * (n - 2).toNat - (layB f s).length) 0) := by
  unfold bodyS
  rw [packB_zero, packB_len]
  congr 2
  omega
theorem body_len {s : SHQ} {n f : Int} (hn : 12 ≤ n) (hl : ((layB f s).length : Int) ≤ 8 * (n - 2)) : (bodyS f s n).length = (n - 2).toNat := by
  rw [body_eq hn hl, packB_len, List.length_append, List.length_replicate]; omega
theorem body_unB {s : SHQ} {n f : Int} (hn : 12 ≤ n) (hl : ((layB f s).length : Int) ≤ 8 * (n - 2)) : unB (bodyS f s n) = layB f s ++ List.replicate (8 * (n - 2).toNat - (layB f s).length) 0 := by
  rw [body_eq hn hl, unB_full (bit_app (layB_bit f s) (bit_zero _))]
  rw [List.length_append, List.length_replicate, show 8 * (((layB f s).length + (8 * (n - 2).toNat - (layB f s).length) + 7) / 8) - ((layB f s).length + (8 * (n - 2).toNat - (layB f s).length)) = 0 by omega]
  simp
theorem seal_len (xs : List Int) : (sealS xs).length = xs.length + 2 := by simp [sealS]
theorem seal_take (xs : List Int) : (sealS xs).take ((sealS xs).length - 2) = xs := by
  rw [seal_len, show xs.length + 2 - 2 = xs.length by omega]
  unfold sealS; exact List.take_left
theorem readU_lay {s : SHQ} {n f : Int} (h : RtP s n) (l1 : s.1.length = 8) (l8 : s.2.length = 8) (l4 : ∀ y ∈ s.2, y.length = 4) (hf : 0 ≤ f ∧ f ≤ 65535) (m : Nat) : readU (layB f s ++ List.replicate m 0) n = ((f, s), 0) := by
  obtain ⟨hk1, hk2, hk3⟩ := give_fit h.rt h.sz
  have hall := layB_all (f := f) h l1 l8
  have hlen := layB_len (f := f) h l1 l8
  have hrow := h.row
  have hside : sideR (layB f s ++ List.replicate m 0) = s.1 := by
    refine ext_getD (by simp [sideR, l1]) fun b hb => ?_
    have hb : b < 8 := by simpa [sideR] using hb
    have e : (sideR (layB f s ++ List.replicate m 0)).getD b 0 = getN (layB f s ++ List.replicate m 0) (16 + 4 * b) 4 := by
      unfold sideR; rw [List.getD_eq_getElem?_getD, List.getElem?_map, List.getElem?_range hb]; rfl
    have hr := right_at h.rt b
    have es : sideB s.1 = sideB (s.1.take b) ++ (bitsN (s.1.getD b 0) 4 ++ sideB (s.1.drop (b + 1))) := by
      have : s.1 = s.1.take b ++ s.1.getD b 0 :: s.1.drop (b + 1) := by
        rw [List.getD_eq_getElem?_getD, List.getElem?_eq_getElem (by omega), Option.getD_some, List.getElem_cons_drop, List.take_append_drop]
      conv => lhs; rw [this]
      unfold sideB; rw [List.flatMap_append, List.flatMap_cons]
    rw [e, get_at (A := bitsN f 16 ++ sideB (s.1.take b)) (B := bitsN (s.1.getD b 0) 4) (C := sideB (s.1.drop (b + 1)) ++ (rowsB s.2 ++ List.replicate m 0)) (by unfold layB; rw [es]; simp only [List.append_assoc]) (by rw [List.length_append, bitsN_len, sideB_len, List.length_take]; omega) (bitsN_len _ _)]
    exact numB_bits hr.1 (by have : (2 : Int) ^ 4 = 16 := by decide
                             omega)
  have hnum : getN (layB f s ++ List.replicate m 0) 0 16 = f := by
    rw [get_at (i := 0) (n := 16) (U := layB f s ++ List.replicate m 0) (A := []) (B := bitsN f 16) (C := sideB s.1 ++ (rowsB s.2 ++ List.replicate m 0)) (by unfold layB; simp only [List.append_assoc, List.nil_append]) rfl (bitsN_len _ _)]
    exact numB_bits hf.1 (by have : (2 : Int) ^ 16 = 65536 := by decide
                             omega)
  unfold readU
  rw [hside, hnum]
  generalize hkk : giveV s.1 (giveB n) = k at *
  have hrI : ∀ b, b < 8 → rowI (layB f s ++ List.replicate m 0) k b = (indexF (s.2.getD b (List.replicate 4 0))).1 := fun b hb => by
    have hy := l4 _ (getD_mem (f := s.2) (k := b) (d := List.replicate 4 0) (by omega))
    obtain ⟨i1, i2, i3, i4, i5⟩ := index_row hy (hk2 b hb) (hrow b hb)
    have es : rowsB s.2 = rowsB (s.2.take b) ++ (rowB (s.2.getD b (List.replicate 4 0)) ++ rowsB (s.2.drop (b + 1))) := by
      have : s.2 = s.2.take b ++ s.2.getD b (List.replicate 4 0) :: s.2.drop (b + 1) := by
        rw [List.getD_eq_getElem?_getD, List.getElem?_eq_getElem (by omega), Option.getD_some, List.getElem_cons_drop, List.take_append_drop]
      conv => lhs; rw [this]
      unfold rowsB; rw [List.flatMap_append, List.flatMap_cons]
    unfold rowI
    rw [get_at (A := bitsN f 16 ++ sideB s.1 ++ rowsB (s.2.take b)) (B := rowB (s.2.getD b (List.replicate 4 0))) (C := rowsB (s.2.drop (b + 1)) ++ List.replicate m 0) (by unfold layB; rw [es]; simp only [List.append_assoc]) (hlen b (by omega)) (by unfold rowB; rw [bitsN_len, hrow b hb])]
    unfold rowB
    rw [hrow b hb]
    exact numB_bits i1 i3
  have hok : okTo (layB f s ++ List.replicate m 0) k 8 = true := List.all_eq_true.2 fun b hb => by
    have hb := List.mem_range.1 hb
    have hy := l4 _ (getD_mem (f := s.2) (k := b) (d := List.replicate 4 0) (by omega))
    obtain ⟨i1, i2, i3, i4, i5⟩ := index_row hy (hk2 b hb) (hrow b hb)
    rw [hrI b hb]; exact decide_eq_true i2
  have hz : (List.drop (offK k 8) (layB f s ++ List.replicate m 0)).all (fun b => decide (b ≠ 1)) = true := by
    rw [← hall, List.drop_left]
    exact List.all_eq_true.2 fun b hb => by rw [(List.mem_replicate.1 hb).2]; rfl
  have hrows : rowsR (layB f s ++ List.replicate m 0) k 8 = s.2 := by
    apply List.ext_getElem?
    intro b
    by_cases hb : b < 8
    · have hy := l4 _ (getD_mem (f := s.2) (k := b) (d := List.replicate 4 0) (by omega))
      obtain ⟨i1, i2, i3, i4, i5⟩ := index_row hy (hk2 b hb) (hrow b hb)
      unfold rowsR
      rw [List.getElem?_map, List.getElem?_range hb, Option.map_some, hrI b hb, i4, List.getD_eq_getElem?_getD, List.getElem?_eq_getElem (by omega)]; rfl
    · rw [List.getElem?_eq_none (by simp [rowsR]; omega), List.getElem?_eq_none (by omega)]
  dsimp only
  rw [hok, hz, hrows]; rfl
/-- What is laid is read as it was. -/
theorem read_lay {s : SHQ} {n f : Int} (h : RtP s n) (l1 : s.1.length = 8) (l8 : s.2.length = 8) (l4 : ∀ y ∈ s.2, y.length = 4) (hf : 0 ≤ f ∧ f ≤ 65535) : (layS f s n).length = n.toNat ∧ readS (layS f s n) = ((f, s), 0) := by
  have hn := h.sz
  obtain ⟨-, -, hk3⟩ := give_fit h.rt hn
  have hl : ((layB f s).length : Int) ≤ 8 * (n - 2) := by rw [layB_all h l1 l8]; exact hk3
  have hbl := body_len (f := f) hn.1 hl
  have hlen : (layS f s n).length = n.toNat := by unfold layS; rw [seal_len, hbl]; omega
  refine ⟨hlen, ?_⟩
  unfold readS
  have e : (layS f s n).take ((layS f s n).length - 2) = bodyS f s n := seal_take _
  have en : (((layS f s n).length : Nat) : Int) = n := by omega
  rw [e, en, if_neg (giveB_ne.2 hn), if_pos (show sealS (bodyS f s n) = layS f s n from rfl), body_unB hn.1 hl]
  exact readU_lay h l1 l8 l4 hf _
end Go.SL.A

/- Packets: what is read is laid as it was. -/
namespace Go.SL.A
open Go Go.SL Go.SL.S
set_option maxRecDepth 100000

theorem bits_get {U : List Int} (hU : Bit U) {i n : Nat} (h : i + n ≤ U.length) : bitsN (getN U i n) n = (U.drop i).take n :=
  bits_numB (by rw [List.length_take, List.length_drop]; omega) (bit_take (bit_drop hU i) n)
theorem getN_fit {U : List Int} (hU : Bit U) {i n : Nat} (h : i + n ≤ U.length) : 0 ≤ getN U i n ∧ getN U i n < 2 ^ n :=
  numB_fit (by rw [List.length_take, List.length_drop]; omega) (bit_take (bit_drop hU i) n)
theorem take_more {U : List Int} {i n : Nat} : U.take i ++ (U.drop i).take n = U.take (i + n) := by rw [List.take_add]
theorem sideR_at (U : List Int) {b : Nat} (hb : b < 8) : (sideR U).getD b 0 = getN U (16 + 4 * b) 4 := by
  unfold sideR; rw [List.getD_eq_getElem?_getD, List.getElem?_map, List.getElem?_range hb]; rfl
theorem sideR_len (U : List Int) : (sideR U).length = 8 := by simp [sideR]
theorem rowsR_len (U k : List Int) (b : Nat) : (rowsR U k b).length = b := by simp [rowsR]
theorem rowsR_at (U k : List Int) {j b : Nat} (hb : j < b) (d : List Int) : (rowsR U k b).getD j d = vecF 4 (k.getD j 0) (rowI U k j) := by
  unfold rowsR; rw [List.getD_eq_getElem?_getD, List.getElem?_map, List.getElem?_range hb]; rfl
theorem right_of {s : List Int} (h : ∀ x ∈ s, 0 ≤ x ∧ x ≤ 15) : rightF s = true := by
  unfold rightF
  have : s.any badF = false := List.any_eq_false.2 fun x hx => by
    have := h x hx
    unfold badF; simp; omega
  rw [this]; rfl
theorem sideR_right {U : List Int} (hU : Bit U) (hl : 48 ≤ U.length) : rightF (sideR U) = true := right_of fun x hx => by
  obtain ⟨b, hb, rfl⟩ := List.mem_map.1 hx
  have hb := List.mem_range.1 hb
  have := getN_fit hU (i := 16 + 4 * b) (n := 4) (by omega)
  have e : (2 : Int) ^ 4 = 16 := by decide
  omega
theorem side_back {U : List Int} (hU : Bit U) (hl : 48 ≤ U.length) : ∀ b, b ≤ 8 → U.take 16 ++ sideB ((sideR U).take b) = U.take (16 + 4 * b) := by
  intro b
  induction b with
  | zero => intro _; rw [List.take_zero]; unfold sideB; simp
  | succ b ih =>
    intro hb
    rw [sideB_take _ (by rw [sideR_len]; omega), ← List.append_assoc, ih (by omega), sideR_at U (by omega), bits_get hU (by omega), take_more, show 16 + 4 * b + 4 = 16 + 4 * (b + 1) by omega]
/-- What is read of bits. -/
structure RdU (U : List Int) (n : Int) : Prop where
  rt : rightF (sideR U) = true
  k8 : (giveV (sideR U) (giveB n)).length = 8
  kf : ∀ b, b < 8 → 0 ≤ (giveV (sideR U) (giveB n)).getD b 0 ∧ (giveV (sideR U) (giveB n)).getD b 0 ≤ 12
  off : ∀ b, b ≤ 8 → offK (giveV (sideR U) (giveB n)) b ≤ U.length
theorem rdU {U : List Int} {n : Int} (hU : Bit U) (hn : 12 ≤ n ∧ n ≤ 24) (hl : (U.length : Int) = 8 * (n - 2)) : RdU U n := by
  have hr := sideR_right hU (by omega)
  obtain ⟨h1, h2, h3⟩ := give_fit hr hn
  refine ⟨hr, h1, h2, fun b hb => ?_⟩
  have := offK_mono (giveV (sideR U) (giveB n)) hb
  omega
theorem row_of {k i : Int} (hk : 0 ≤ k ∧ k ≤ 12) (hi : 0 ≤ i) (hi2 : i < countF 4 k) : vecE 4 k i = 0 ∧ (vecF 4 k i).length = 4 ∧ pulsesF (vecF 4 k i) = k ∧ indexF (vecF 4 k i) = (i, 0) := by
  obtain ⟨h1, h2, h3, h4, h5, h6⟩ := vec_ok (n := 4) (k := k) (by omega) hi hi2
  exact ⟨h1, by omega, h5, h6⟩
theorem rows_back {U k : List Int} (hU : Bit U) (hk : ∀ b, b < 8 → 0 ≤ k.getD b 0 ∧ k.getD b 0 ≤ 12) (ho : ∀ b, b ≤ 8 → offK k b ≤ U.length) (hok : okTo U k 8 = true) : ∀ b, b ≤ 8 → U.take 48 ++ rowsB ((rowsR U k 8).take b) = U.take (offK k b) := by
  intro b
  induction b with
  | zero => intro _; rw [List.take_zero]; unfold rowsB; simp [offK]
  | succ b ih =>
    intro hb
    have h1 := ho (b + 1) hb
    rw [offK] at h1
    have hi := getN_fit hU (i := offK k b) (n := bitsK (k.getD b 0)) h1
    have hlt := of_decide_eq_true (List.all_eq_true.1 hok b (List.mem_range.2 (by omega)))
    obtain ⟨r1, r2, r3, r4⟩ := row_of (hk b (by omega)) (show 0 ≤ rowI U k b from hi.1) hlt
    rw [rowsB_take _ (by rw [rowsR_len]; omega), ← List.append_assoc, ih (by omega), rowsR_at U k (by omega)]
    unfold rowB
    rw [r3, r4]
    show _ ++ bitsN (getN U (offK k b) (bitsK (k.getD b 0))) (bitsK (k.getD b 0)) = _
    rw [bits_get hU h1, take_more, offK]
theorem lay_read_U {U : List Int} {n : Int} (hU : Bit U) (hn : 12 ≤ n ∧ n ≤ 24) (hl : (U.length : Int) = 8 * (n - 2)) {p : Int × SHQ} (h : readU U n = (p, 0)) : RtP p.2 n ∧ p.2.1.length = 8 ∧ p.2.2.length = 8 ∧ (∀ y ∈ p.2.2, y.length = 4) ∧ (0 ≤ p.1 ∧ p.1 ≤ 65535) ∧ bodyS p.1 p.2 n = packB U := by
  have R := rdU hU hn hl
  unfold readU at h
  dsimp only at h
  have hk := R.kf
  have ho := R.off
  have hr := R.rt
  generalize hkk : giveV (sideR U) (giveB n) = k at *
  split at h
  · rename_i hc
    rw [Bool.and_eq_true] at hc
    obtain ⟨hok, hz⟩ := hc
    have h := (Prod.mk.inj h).1
    subst h
    have hf := getN_fit hU (i := 0) (n := 16) (by omega)
    have e16 : (2 : Int) ^ 16 = 65536 := by decide
    have hrow : ∀ b, b < 8 → vecE 4 (k.getD b 0) (rowI U k b) = 0 ∧ (vecF 4 (k.getD b 0) (rowI U k b)).length = 4 ∧ pulsesF (vecF 4 (k.getD b 0) (rowI U k b)) = k.getD b 0 ∧ indexF (vecF 4 (k.getD b 0) (rowI U k b)) = (rowI U k b, 0) := fun b hb => by
      have h1 := ho (b + 1) (by omega)
      rw [offK] at h1
      have hi := getN_fit hU (i := offK k b) (n := bitsK (k.getD b 0)) h1
      exact row_of (hk b hb) hi.1 (of_decide_eq_true (List.all_eq_true.1 hok b (List.mem_range.2 hb)))
    refine ⟨⟨hn, hr, fun b hb => ?_⟩, sideR_len U, rowsR_len U k 8, fun y hy => ?_, by dsimp only; omega, ?_⟩
    · show pulsesF ((rowsR U k 8).getD b _) = (giveV (sideR U) (giveB n)).getD b 0
      rw [rowsR_at U k hb, hkk]; exact (hrow b hb).2.2.1
    · obtain ⟨b, hb, rfl⟩ := List.mem_map.1 hy
      exact (hrow b (List.mem_range.1 hb)).2.1
    · have eL : layB (getN U 0 16) (sideR U, rowsR U k 8) = U.take (offK k 8) := by
        unfold layB
        dsimp only
        rw [bits_get hU (by omega), List.drop_zero]
        have s8 := side_back hU (by omega) 8 (Nat.le_refl _)
        rw [List.take_of_length_le (l := sideR U) (by rw [sideR_len]; omega)] at s8
        rw [s8]
        have r8 := rows_back hU hk ho hok 8 (Nat.le_refl _)
        rw [List.take_of_length_le (l := rowsR U k 8) (by rw [rowsR_len]; omega)] at r8
        exact r8
      have hlen : (layB (getN U 0 16) (sideR U, rowsR U k 8)).length = offK k 8 := by
        rw [eL, List.length_take]; have := ho 8 (Nat.le_refl _); omega
      have h8 := ho 8 (Nat.le_refl _)
      rw [body_eq hn.1 (by rw [hlen]; omega), hlen, eL]
      congr 1
      conv => rhs; rw [← List.take_append_drop (offK k 8) U]
      congr 1
      symm
      refine List.eq_replicate_iff.2 ⟨by rw [List.length_drop]; omega, fun x hx => ?_⟩
      have h1 := of_decide_eq_true (List.all_eq_true.1 hz x hx)
      rcases bit_drop hU _ x hx with h0 | h0
      · exact h0
      · exact absurd h0 h1
  · exact absurd (Prod.mk.inj h).2 (by decide)
/-- What can be read is what is laid of it. -/
theorem lay_read {xs : List Int} (hx : Byt xs) {p : Int × SHQ} (h : readS xs = (p, 0)) : RtP p.2 xs.length ∧ p.2.1.length = 8 ∧ p.2.2.length = 8 ∧ (∀ y ∈ p.2.2, y.length = 4) ∧ (0 ≤ p.1 ∧ p.1 ≤ 65535) ∧ layS p.1 p.2 xs.length = xs := by
  unfold readS at h
  split at h
  · exact absurd (Prod.mk.inj h).2 (by decide)
  · rename_i hB
    have hn := giveB_ne.1 hB
    split at h
    · rename_i hs
      have hb : Byt (xs.take (xs.length - 2)) := fun x hx' => hx x (List.mem_of_mem_take hx')
      obtain ⟨h1, h2, h3, h4, h5, h6⟩ := lay_read_U (unB_bit _) hn (by rw [unB_len, List.length_take]; omega) h
      refine ⟨h1, h2, h3, h4, h5, ?_⟩
      unfold layS
      rw [h6, pack_unB hb, hs]
    · exact absurd (Prod.mk.inj h).2 (by decide)
end Go.SL.A

/- Functions do what they are held to do. -/
namespace Go.SL.A
open Go Go.SL Go.SL.S
theorem snd57 : Sound Go.Proofs.Try.prog G57 := snd61.add ⟨_, Go.Proofs.Try.func29, by kernel_rfl, by kernel_rfl⟩ (by
  intro args ins out h hp
  unfold sp57 at h
  split at h
  · rename_i s bits
    cases h
    exact vcFun_ok (C := C57) good snd61 methOk18 mix Go.Proofs.Try.func29 (ann57 s bits) (fun hw => by rw [← vc57 s bits]; exact pure57 s bits (hw57 hw))
  · cases h)

theorem snd62 : Sound Go.Proofs.Try.prog G62 := snd57.add ⟨_, Go.Proofs.Try.func18, by kernel_rfl, by kernel_rfl⟩ (by
  intro args ins out h hp
  unfold sp62 at h
  split at h
  · rename_i s bits
    cases h
    exact vcFun_ok (C := C62) good snd57 methOk18 mix Go.Proofs.Try.func18 (ann62 s bits) (fun hw => by rw [← vc62 s bits]; exact pure62 s bits hp.1 hp.2 (hw57 hw))
  · cases h)

end Go.SL.A

/- Statements of give: plain functions. -/
namespace Go.SL.S
open Go Go.SL
def topTo (h : List Int) : Nat → Int
  | 0 => 0
  | i + 1 => max (topTo h i) (h.getD i 0)
def bestIx (h : List Int) : Nat → Nat
  | 0 => 0
  | i + 1 => if h.getD (bestIx h i) 0 < h.getD i 0 then i else bestIx h i
end Go.SL.S

/- Statements of give: plain laws. -/
namespace Go.SL.A
open Go Go.SL Go.SL.S

theorem hw15 {s : List Int} {bits a : Int} (hw : Go.SL.allP (List.flatMap (fun a : AV => a.t.wf a.x) [⟨.arr 8 (.int .i64), s⟩, ⟨.int .u16, bits⟩, ⟨.int .u8, a⟩] ++ List.flatMap Blk.wf [])) : s.length = 8 ∧ (0 ≤ bits ∧ bits ≤ 65535) ∧ 0 ≤ a ∧ a ≤ 255 := by
  simp only [List.flatMap_cons, List.flatMap_nil, Ty.wf, List.append_nil, List.cons_append, List.nil_append, Go.SL.allP] at hw
  exact ⟨hw.1, ⟨hw.2.2.1, hw.2.2.2.1⟩, hw.2.2.2.2.1, hw.2.2.2.2.2⟩
theorem hw16 {s : List Int} {bits : Int} (hw : Go.SL.allP (List.flatMap (fun a : AV => a.t.wf a.x) [⟨.arr 8 (.int .i64), s⟩, ⟨.int .u16, bits⟩] ++ List.flatMap Blk.wf [])) : s.length = 8 ∧ 0 ≤ bits ∧ bits ≤ 65535 := by
  simp only [List.flatMap_cons, List.flatMap_nil, Ty.wf, List.append_nil, List.cons_append, List.nil_append, Go.SL.allP] at hw
  exact ⟨hw.1, hw.2.2.1, hw.2.2.2⟩
theorem hw18 {s : List Int} {bits z : Int} (hw : Go.SL.allP (List.flatMap (fun a : AV => a.t.wf a.x) [⟨.arr 8 (.int .i64), s⟩, ⟨.int .i64, bits⟩, ⟨.int .i64, z⟩] ++ List.flatMap Blk.wf [])) : s.length = 8 := by
  simp only [List.flatMap_cons, List.flatMap_nil, Ty.wf, List.append_nil, List.cons_append, List.nil_append, Go.SL.allP] at hw
  exact hw.1

theorem iand15 (x : Int) : 0 ≤ iand .i64 x 15 ∧ iand .i64 x 15 ≤ 15 := by
  unfold iand
  have h : (BitVec.ofInt IntKind.i64.bits x &&& BitVec.ofInt IntKind.i64.bits 15).toNat ≤ 15 := by
    rw [BitVec.toNat_and]
    have : (BitVec.ofInt IntKind.i64.bits 15).toNat = 15 := by decide
    rw [this]
    exact Nat.and_le_right
  rw [w64 (by omega) (by omega)]
  omega

theorem held8_right (s : List Int) : rightF (held8 s) = true := by
  unfold rightF held8
  simp only [Bool.not_eq_true', List.any_eq_false, List.mem_map]
  rintro _ ⟨x, -, rfl⟩
  have := iand15 x
  unfold badF
  simp only [Bool.or_eq_true, decide_eq_true_eq]; omega

theorem held8_len {s : List Int} (h : s.length = 8) : (held8 s).length = 8 := by simp [held8, h]

theorem eqbA {n : Nat} {a b : List Int} (ha : a.length = n) (hb : b.length = n) : (Ty.arr n (Ty.int .i64)).eqb a b = decide (a = b) := by
  rw [Bool.eq_iff_iff]
  simp only [Ty.eqb, List.all_eq_true, List.mem_range, decide_eq_true_eq]
  constructor
  · intro h
    refine List.ext_getElem (by omega) fun i h1 h2 => ?_
    have := h i (by omega)
    rw [List.getD_eq_getElem?_getD, List.getD_eq_getElem?_getD, List.getElem?_eq_getElem h1, List.getElem?_eq_getElem h2] at this
    exact this
  · intro h i _
    rw [h]

theorem giveV_ok {s : List Int} {bits : Int} (h1 : rightF s = true) (h2 : 0 ≤ bits ∧ bits ≤ 1048576) : giveE s bits = 0 ∧ giveV s bits = giveF s bits := by
  have hE := giveE_no (s := s) (bits := bits) (by rw [h1]; simp; omega)
  exact ⟨hE, by unfold giveV; rw [if_pos hE]⟩

theorem getD_add (s : List Int) (m : Int) {i : Nat} (h : i < s.length) : (s.map (· + m)).getD i 0 = s.getD i 0 + m := by
  simp [List.getD_eq_getElem?_getD, List.getElem?_eq_getElem h]

theorem best_shift {s : List Int} (hl : s.length = 8) (m : Int) (k : List Int) (bits : Int) : ∀ n, n ≤ 8 → bestTo (s.map (· + m)) k bits n = bestTo s k bits n
  | 0, _ => rfl
  | n + 1, h => by
    rw [bestTo, bestTo, best_shift hl m k bits n (by omega)]
    rcases best_cases s k bits n with ⟨h1, _⟩ | ⟨c, h1, h2, _⟩
    · rw [h1]
      have e : ∀ p q : Prop, ((-1 : Int) < 0 ∨ p) = ((-1 : Int) < 0 ∨ q) := fun p q => propext ⟨fun _ => .inl (by omega), fun _ => .inl (by omega)⟩
      simp only [e _ (s.getD (-1 : Int).toNat 0 - k.getD (-1 : Int).toNat 0 < s.getD n 0 - k.getD n 0)]
    · rw [h2]
      simp only [Int.toNat_natCast]
      have g1 := getD_add s m (i := c) (by omega)
      have g2 := getD_add s m (i := n) (by omega)
      simp only [g1, g2]
      have e : (s.getD c 0 + m - k.getD c 0 < s.getD n 0 + m - k.getD n 0) = (s.getD c 0 - k.getD c 0 < s.getD n 0 - k.getD n 0) := propext ⟨fun _ => by omega, fun _ => by omega⟩
      simp only [e]

theorem refRun_shift {s : List Int} (hl : s.length = 8) (m : Int) : ∀ (f : Nat) (x : List Int × Int), refRun (s.map (· + m)) f x = refRun s f x
  | 0, _ => rfl
  | f + 1, x => by rw [refRun, refRun, best_shift hl m _ _ 8 (Nat.le_refl _), refRun_shift hl m f]

theorem giveF_shift {s : List Int} (hl : s.length = 8) (m : Int) {B : Int} (hB : 0 ≤ B) : giveF (s.map (· + m)) B = giveF s B := by
  rw [give_eq _ hB, give_eq _ hB]
  exact refRun_shift hl m 100 _

theorem refRun_mono (s : List Int) : ∀ (f : Nat) (x : List Int × Int), x.1.length = 8 → ∀ b, x.1.getD b 0 ≤ (refRun s f x).getD b 0
  | 0, x, _, b => Int.le_refl _
  | f + 1, x, hl, b => by
    rw [refRun]
    split
    · exact Int.le_refl _
    · rename_i h
      rcases best_cases s x.1 x.2 8 with ⟨h1, _⟩ | ⟨c, h1, h2, _⟩
      · omega
      · have := refRun_mono s f (x.1.set (bestTo s x.1 x.2 8).toNat (x.1.getD (bestTo s x.1 x.2 8).toNat 0 + 1), x.2 - moreF (x.1.getD (bestTo s x.1 x.2 8).toNat 0)) (by simp only [List.length_set]; exact hl) b
        refine Int.le_trans ?_ this
        simp only [h2, Int.toNat_natCast]
        rw [set_at _ _ _ _ (by omega)]
        split
        · rename_i e; subst e; omega
        · exact Int.le_refl _

theorem bestIx_spec (h : List Int) : ∀ i, 1 ≤ i → bestIx h i < i ∧ ∀ c, c < i → h.getD c 0 ≤ h.getD (bestIx h i) 0 ∧ (c < bestIx h i → h.getD c 0 < h.getD (bestIx h i) 0)
  | 0, hi => by omega
  | 1, _ => by
    have e : bestIx h 1 = 0 := by rw [bestIx, bestIx]; split <;> rfl
    rw [e]
    refine ⟨by omega, fun c hc => ?_⟩
    have : c = 0 := by omega
    subst this
    exact ⟨Int.le_refl _, fun h => by omega⟩
  | i + 2, _ => by
    obtain ⟨h1, h2⟩ := bestIx_spec h (i + 1) (by omega)
    rw [bestIx]
    split
    · rename_i hlt
      refine ⟨by omega, fun c hc => ?_⟩
      by_cases e : c = i + 1
      · subst e; exact ⟨Int.le_refl _, fun h => by omega⟩
      · have := (h2 c (by omega)).1
        exact ⟨by omega, fun _ => by omega⟩
    · rename_i hlt
      refine ⟨by omega, fun c hc => ?_⟩
      by_cases e : c = i + 1
      · subst e; exact ⟨by omega, fun _ => by omega⟩
      · exact h2 c (by omega)

theorem more0 : moreF 0 = 3 := by decide +kernel

theorem give_first {h : List Int} {n : Int} (h3 : 3 ≤ n) : 0 < (giveF h n).getD (bestIx h 8) 0 := by
  rw [give_eq h (by omega)]
  obtain ⟨b1, b2⟩ := bestIx_spec h 8 (by omega)
  have hf : ∀ c, feas z8 n c := fun c => by unfold feas; rw [z8_at, more0]; omega
  have hb := best_is h z8 n (hf (bestIx h 8)) 8 b1 (fun c hc _ => by
    have := b2 c hc
    rw [z8_at, z8_at]; omega)
  unfold refF
  rw [show (100 : Nat) = 99 + 1 from rfl, refRun, if_neg (by rw [hb]; omega)]
  simp only [hb, Int.toNat_natCast]
  have hm := refRun_mono h 99 (z8.set (bestIx h 8) (z8.getD (bestIx h 8) 0 + 1), n - moreF (z8.getD (bestIx h 8) 0)) (by simp only [List.length_set]; rfl) (bestIx h 8)
  simp only at hm
  rw [set_at _ _ _ _ (by show bestIx h 8 < 8; exact b1), if_pos rfl, z8_at] at hm
  rw [z8_at]
  omega

theorem give_none (h : List Int) : giveF h 0 = z8 := by
  rw [give_eq h (by omega)]
  refine refRun_stop (s := h) (x := (z8, 0)) ?_
  rcases best_cases h z8 0 8 with ⟨h1, _⟩ | ⟨c, _, _, h3⟩
  · simp only [h1]; decide
  · have := h3.2
    rw [z8_at, more0] at this; omega

theorem topTo_spec (h : List Int) (hr : ∀ b, 0 ≤ h.getD b 0 ∧ h.getD b 0 ≤ 15) : ∀ i, (0 ≤ topTo h i ∧ topTo h i ≤ 15) ∧ ∀ c, c < i → h.getD c 0 ≤ topTo h i
  | 0 => ⟨by simp [topTo], fun c h => by omega⟩
  | i + 1 => by
    obtain ⟨h1, h2⟩ := topTo_spec h hr i
    have := hr i
    rw [topTo]
    refine ⟨by omega, fun c hc => ?_⟩
    by_cases e : c = i
    · subst e; omega
    · have := h2 c (by omega); omega

end Go.SL.A

/- Bands and shapes: plain functions. -/
namespace Go.SL.S
open Go Go.SL
def mayB (b : Int) : Bool := decide (0 ≤ b ∧ b < 8)
def z4 : List Int := [0, 0, 0, 0]
def ofF (f : List Int) (b : Int) : List Int := if mayB b then (f.drop (b * 4).toNat).take 4 else z4
def putF (f : List Int) (b : Int) (c : List Int) : List Int := if mayB b then f.take (b * 4).toNat ++ c ++ f.drop ((b * 4).toNat + 4) else f
def loudF (m x : Int) : Bool := decide (x < -m) || decide (m < x)
def firstS (c : List Int) : Nat → Nat → Int
  | 0, s => (s : Int)
  | f + 1, s => if c.any (loudF (6 * 2 ^ s)) then firstS c f (s + 1) else (s : Int)
def stepOf (c : List Int) : Int := firstS c 15 0
def stepsF (f : List Int) : List Int := (List.range 8).map fun b : Nat => stepOf (ofF f b)
def clampF (f : List Int) : List Int := f.map fun x => max (min x 1048576) (-1048576)
abbrev SHP : Type := List Int × List (List Int)
def y8 : List (List Int) := [z4, z4, z4, z4, z4, z4, z4, z4]
def shapeY (g S k : List Int) : List (List Int) := (List.range 8).map fun b : Nat => findV (ofF g b) (S.getD b 0) (k.getD b 0)
def shapeF (f : List Int) (n : Int) : SHP := (stepsF (clampF f), shapeY (clampF f) (stepsF (clampF f)) (giveV (stepsF (clampF f)) n))
def shapeE (size : Int) : Int := if giveB size = 0 then 1 else 0
def shapeV (f : List Int) (size : Int) : SHP := if giveB size = 0 then (z8, y8) else shapeF f (giveB size)
def coefsTo (s : SHP) : Nat → List Int
  | 0 => List.replicate 32 0
  | b + 1 => putF (coefsTo s b) b (coefF (s.2.getD b z4) (s.1.getD b 0))
def coefsF (s : SHP) : List Int := coefsTo s 8
def quietF (c : List Int) : Bool := c.all fun x => decide (-12 ≤ x ∧ x ≤ 12)
def silentF (s : SHP) : Bool := quietF (coefsF s) && decide (s.1 = z8)
def errTo (x c : List Int) : Nat → Int
  | 0 => 0
  | i + 1 => errTo x c i + absF (x.getD i 0 - c.getD i 0)
def errF (f : List Int) (s : SHP) : Int := errTo (clampF f) (coefsF s) 32
def sumP : List (List Int) → Int
  | [] => 0
  | y :: l => pulsesF y + sumP l
end Go.SL.S

/- Functions and what they are held to do: bound to their code. -/
namespace Go.SL.A
open Go Go.SL Go.SL.S
set_option maxRecDepth 100000
end Go.SL.A

/- Bands and shapes: functions. -/
namespace Go.SL.A
open Go Go.SL Go.SL.S

theorem hw105 {f : List Int} {b : Int} (hw : Go.SL.allP (List.flatMap (fun a : AV => a.t.wf a.x) [⟨.arr 32 (.int .i64), f⟩, ⟨.int .i64, b⟩] ++ List.flatMap Blk.wf [])) : f.length = 32 := by
  simp only [List.flatMap_cons, List.flatMap_nil, Ty.wf, List.append_nil, List.cons_append, List.nil_append, Go.SL.allP] at hw
  exact hw.1
theorem hw66 {f : List Int} (hw : Go.SL.allP (List.flatMap (fun a : AV => a.t.wf a.x) [⟨.arr 32 (.int .i64), f⟩] ++ List.flatMap Blk.wf [])) : f.length = 32 := by
  simp only [List.flatMap_cons, List.flatMap_nil, Ty.wf, List.append_nil, Go.SL.allP] at hw
  exact hw.1
theorem hw118 {f : List Int} {b : Int} {c : List Int} (hw : Go.SL.allP (List.flatMap (fun a : AV => a.t.wf a.x) [⟨.arr 32 (.int .i64), f⟩, ⟨.int .i64, b⟩, ⟨.arr 4 (.int .i64), c⟩] ++ List.flatMap Blk.wf [])) : f.length = 32 ∧ c.length = 4 := by
  simp only [List.flatMap_cons, List.flatMap_nil, Ty.wf, List.append_nil, List.cons_append, List.nil_append, Go.SL.allP] at hw
  exact ⟨hw.1, hw.2.2.2.2.1⟩
theorem hw90c {c : List Int} {m : Int} (hw : Go.SL.allP (List.flatMap (fun a : AV => a.t.wf a.x) [⟨.ref .slice, .slice 0 (.arr 4 (.int .i64)) [0] 0 4⟩, ⟨.ref .func, .func (.func 154) [] [.ptr 1 (.int .i64) [0]]⟩] ++ List.flatMap Blk.wf [⟨false, true, .arr 4 (.int .i64), [c]⟩, ⟨false, true, .int .i64, [m]⟩])) : c.length = 4 := by
  simp only [List.flatMap_cons, List.flatMap_nil, Ty.wf, Blk.wf, List.append_nil, List.cons_append, List.nil_append, Go.SL.allP] at hw
  exact (hw.1 c (by simp)).1

structure SW (s : SHP) : Prop where
  l1 : s.1.length = 8
  l2 : s.2.length = 8
  l4 : ∀ y ∈ s.2, y.length = 4

theorem hw78 {s : SHP} (hw : Go.SL.allP (List.flatMap (fun a : AV => a.t.wf a.x) [⟨.cons (.arr 8 (.int .i64)) (.last (.arr 8 (.arr 4 (.int .i64)))), s⟩] ++ List.flatMap Blk.wf [])) : SW s := by
  simp only [List.flatMap_cons, List.flatMap_nil, Ty.wf, List.append_nil, List.cons_append, List.nil_append, Go.SL.allP] at hw
  exact ⟨hw.1, hw.2.2.1, fun y hy => (hw.2.2.2 y hy).1⟩
theorem hw80 {f : List Int} {s : SHP} (hw : Go.SL.allP (List.flatMap (fun a : AV => a.t.wf a.x) [⟨.arr 32 (.int .i64), f⟩, ⟨.cons (.arr 8 (.int .i64)) (.last (.arr 8 (.arr 4 (.int .i64)))), s⟩] ++ List.flatMap Blk.wf [])) : f.length = 32 ∧ SW s := by
  simp only [List.flatMap_cons, List.flatMap_nil, Ty.wf, List.append_nil, List.cons_append, List.nil_append, Go.SL.allP] at hw
  exact ⟨hw.1, hw.2.2.1, hw.2.2.2.2.1, fun y hy => (hw.2.2.2.2.2 y hy).1⟩

theorem SW.row {s : SHP} (h : SW s) (b : Nat) : (s.2.getD b z4).length = 4 := by
  by_cases hb : b < s.2.length
  · exact h.l4 _ (getD_mem hb)
  · rw [List.getD_eq_getElem?_getD, List.getElem?_eq_none (by omega)]; rfl

theorem mayB_iff {b : Int} : mayB b = true ↔ 0 ≤ b ∧ b < 8 := by unfold mayB; exact decide_eq_true_iff

theorem ishl6 {x : Nat} (h : x < 15) : ishl .i64 6 (x : Int) = 6 * 2 ^ x ∧ (0 : Int) ≤ 6 * 2 ^ x ∧ (6 : Int) * 2 ^ x ≤ 1000000 := by
  have : x = 0 ∨ x = 1 ∨ x = 2 ∨ x = 3 ∨ x = 4 ∨ x = 5 ∨ x = 6 ∨ x = 7 ∨ x = 8 ∨ x = 9 ∨ x = 10 ∨ x = 11 ∨ x = 12 ∨ x = 13 ∨ x = 14 := by omega
  rcases this with rfl | rfl | rfl | rfl | rfl | rfl | rfl | rfl | rfl | rfl | rfl | rfl | rfl | rfl | rfl <;> decide

theorem stepsF_len (f : List Int) : (stepsF f).length = 8 := by simp [stepsF]
theorem stepsF_at (f : List Int) {i : Nat} (h : i < 8) : (stepsF f)[i]? = some (stepOf (ofF f i)) := by
  unfold stepsF
  rw [List.getElem?_map, List.getElem?_range h]; rfl
theorem shapeY_len (g S k : List Int) : (shapeY g S k).length = 8 := by simp [shapeY]
theorem shapeY_at (g S k : List Int) {i : Nat} (h : i < 8) : (shapeY g S k)[i]? = some (findV (ofF g i) (S.getD i 0) (k.getD i 0)) := by
  unfold shapeY
  rw [List.getElem?_map, List.getElem?_range h]; rfl

theorem coefF_len {y : List Int} {s : Int} (h : y.length = 4) : (coefF y s).length = 4 := by
  unfold coefF
  split
  · simp [h]
  · rfl

theorem putF_len {f c : List Int} (b : Int) (hf : f.length = 32) (hc : c.length = 4) : (putF f b c).length = 32 := by
  unfold putF
  split
  · rename_i h
    have := mayB_iff.1 h
    simp only [List.length_append, List.length_take, List.length_drop]; omega
  · exact hf

theorem put_at {f c : List Int} (hf : f.length = 32) (hc : c.length = 4) {b : Nat} (hb : b < 8) (i : Nat) : (putF f b c).getD i 0 = if 4 * b ≤ i ∧ i < 4 * b + 4 then c.getD (i - 4 * b) 0 else f.getD i 0 := by
  have hm : mayB (b : Int) = true := mayB_iff.2 (by omega)
  unfold putF
  rw [hm, if_pos rfl]
  have e : ((b : Int) * 4).toNat = 4 * b := by omega
  rw [e]
  simp only [List.getD_eq_getElem?_getD]
  by_cases h1 : i < 4 * b
  · rw [if_neg (by omega), List.append_assoc, List.getElem?_append_left (by simp; omega), List.getElem?_take, if_pos h1]
  · by_cases h2 : i < 4 * b + 4
    · rw [if_pos (by omega), List.append_assoc, List.getElem?_append_right (by simp; omega), List.getElem?_append_left (by simp; omega), List.length_take, Nat.min_eq_left (by omega)]
    · rw [if_neg (by omega), List.getElem?_append_right (by simp; omega), List.getElem?_drop]
      simp only [List.length_append, List.length_take, hc, hf]
      congr 2; omega

theorem coefsTo_ok {s : SHP} (hs : SW s) : ∀ b, b ≤ 8 → (coefsTo s b).length = 32 ∧ ∀ i, (coefsTo s b).getD i 0 = if i < 4 * b then (coefF (s.2.getD (i / 4) z4) (s.1.getD (i / 4) 0)).getD (i % 4) 0 else 0
  | 0, _ => by
    refine ⟨by simp [coefsTo], fun i => ?_⟩
    rw [if_neg (by omega)]
    simp only [coefsTo, List.getD_eq_getElem?_getD, List.getElem?_replicate]
    split <;> rfl
  | b + 1, hb => by
    obtain ⟨h1, h2⟩ := coefsTo_ok hs b (by omega)
    have hc := coefF_len (s := s.1.getD b 0) (hs.row b)
    refine ⟨by rw [coefsTo]; exact putF_len _ h1 hc, fun i => ?_⟩
    rw [coefsTo, put_at h1 hc (by omega)]
    by_cases h : 4 * b ≤ i ∧ i < 4 * b + 4
    · rw [if_pos h, if_pos (by omega), show i / 4 = b by omega, show i % 4 = i - 4 * b by omega]
    · rw [if_neg h, h2 i]
      by_cases h3 : i < 4 * b
      · rw [if_pos h3, if_pos (by omega)]
      · rw [if_neg h3, if_neg (by omega)]

theorem coefs_at {s : SHP} (hs : SW s) {i : Nat} (hi : i < 32) : (coefsF s).getD i 0 = (coefF (s.2.getD (i / 4) z4) (s.1.getD (i / 4) 0)).getD (i % 4) 0 := by
  have := (coefsTo_ok hs 8 (Nat.le_refl _)).2 i
  rw [if_pos (by omega)] at this
  exact this
theorem coefs_len {s : SHP} (hs : SW s) : (coefsF s).length = 32 := (coefsTo_ok hs 8 (Nat.le_refl _)).1
theorem coefs_fit {s : SHP} (hs : SW s) (i : Nat) : -393216 ≤ (coefsF s).getD i 0 ∧ (coefsF s).getD i 0 ≤ 393216 := by
  by_cases hi : i < 32
  · rw [coefs_at hs hi]; exact coefF_at _ _ _
  · rw [List.getD_eq_getElem?_getD, List.getElem?_eq_none (by rw [coefs_len hs]; omega)]; simp

theorem quiet_step {c : List Int} {i : Nat} (hi : i < c.length) : quietF (c.take (i + 1)) = (quietF (c.take i) && decide (-12 ≤ c.getD i 0 ∧ c.getD i 0 ≤ 12)) := by
  unfold quietF; rw [take_snoc' 0 hi, List.all_append]; simp
theorem quiet_not {c : List Int} {i : Nat} (hi : i < c.length) (h : ¬ (-12 ≤ c.getD i 0 ∧ c.getD i 0 ≤ 12)) : quietF c = false := by
  unfold quietF
  rw [List.all_eq_false]
  exact ⟨c.getD i 0, getD_mem hi, by simpa using h⟩

theorem clamp_at (f : List Int) (i : Nat) : -1048576 ≤ (clampF f).getD i 0 ∧ (clampF f).getD i 0 ≤ 1048576 := by
  unfold clampF
  simp only [List.getD_eq_getElem?_getD, List.getElem?_map]
  cases f[i]? with
  | none => simp
  | some x => simp only [Option.map_some, Option.getD_some]; omega

theorem errTo_fits {x c : List Int} (hx : ∀ i, -1048576 ≤ x.getD i 0 ∧ x.getD i 0 ≤ 1048576) (hc : ∀ i, -393216 ≤ c.getD i 0 ∧ c.getD i 0 ≤ 393216) : ∀ i, 0 ≤ errTo x c i ∧ errTo x c i ≤ (i : Int) * 2000000
  | 0 => by simp [errTo]
  | i + 1 => by
    have h := errTo_fits hx hc i
    have h1 := hx i
    have h2 := hc i
    have h3 := absF_le (x.getD i 0 - c.getD i 0)
    rw [errTo]; omega

theorem aw64 : (shapeV (List.replicate 32 0) 12).1 = z8 ∧ ((shapeV (List.replicate 32 0) 12).2).map pulsesF = [2, 2, 2, 2, 1, 1, 1, 1] ∧ ((shapeV (List.replicate 32 0) 12).2).map List.length = [4, 4, 4, 4, 4, 4, 4, 4] := by decide +kernel

theorem sumP_append : ∀ p q : List (List Int), sumP (p ++ q) = sumP p + sumP q
  | [], q => by simp [sumP]
  | x :: p, q => by simp only [List.cons_append, sumP, sumP_append p q]; omega

theorem pulses_fit (y : List Int) : 0 ≤ pulsesF y ∧ pulsesF y ≤ 13 := by
  unfold pulsesF
  split
  · omega
  · have := sumSz_le y; omega

theorem sumP_fit : ∀ l : List (List Int), 0 ≤ sumP l ∧ sumP l ≤ 13 * l.length
  | [] => by simp [sumP]
  | y :: l => by
    have := sumP_fit l
    have := pulses_fit y
    simp only [sumP, List.length_cons]; omega

end Go.SL.A

/- Functions do what they are held to do. -/
namespace Go.SL.A
open Go Go.SL Go.SL.S
end Go.SL.A

/- Bits laid and read, and a sum: plain functions of what lies in memory. -/
namespace Go.SL.S
open Go Go.SL
/-- The bits of a text. -/
def bitsS (s : ByteArray) : List Int := unB (ofBytes s)
def getV (s : ByteArray) (a n : Int) : Int := if 8 * (ByteArray.size s : Int) - a < n then 0 else getN (bitsS s) a.toNat n.toNat
def getBE (s : ByteArray) (a n : Int) : Int := if 8 * (ByteArray.size s : Int) - a < n then 2 else 0
def getA (s : ByteArray) (a n : Int) : Int := if 8 * (ByteArray.size s : Int) - a < n then a else a + n
/-- The bits that were laid, as bytes have them. -/
def wL (xs : List Int) (n : Int) : List Int := (unB xs).take n.toNat
def wrOk (xs : List Int) (n : Int) : Prop := (0 ≤ n ∧ n ≤ 100000) ∧ n.toNat ≤ 8 * xs.length ∧ xs = packB (wL xs n)
def openS (s : ByteArray) : ByteArray := if sealS ((ofBytes s).take (ByteArray.size s - 2)) = ofBytes s then bytesOf ((ofBytes s).take (ByteArray.size s - 2)) else ByteArray.empty
def openE (s : ByteArray) : Int := if sealS ((ofBytes s).take (ByteArray.size s - 2)) = ofBytes s then 0 else 4
def pulV (s : ByteArray) (a k : Int) : List Int := if getN (bitsS s) a.toNat (bitsK k) < countF 4 k then vecF 4 k (getN (bitsS s) a.toNat (bitsK k)) else List.replicate 4 0
def pulE (s : ByteArray) (a k : Int) : Int := if getN (bitsS s) a.toNat (bitsK k) < countF 4 k then 0 else 3
end Go.SL.S

/- Functions and what they are held to do: bound to their code. -/
namespace Go.SL.A
open Go Go.SL Go.SL.S
set_option maxRecDepth 100000
noncomputable def C124 : Ctx := ⟨Go.Proofs.Try.prog, D, G62, (fun _ _ => none), fun _ => []⟩
def ann124 (_s : ByteArray) : Nat → St → Option Ann := fun _ _ => none
def out124 (s : ByteArray) : COut := ⟨[], .v (.ref .ptr) (.ptr 0 (.cons .str (.last (.int .i64))) [0]), [], [⟨false, true, .cons .str (.last (.int .i64)), [(s, 0)]⟩]⟩
def sp124 : Spec := fun args ins => match args, ins with
  | [⟨.str, s⟩], [] => some (out124 s)
  | _, _ => none
def G124 := addG G62 37 sp124
def P124 (s : ByteArray) : Prop :=
  (0 : Nat) = (0 : Nat) ∧ s = s ∧ (0 : Int) = (0 : Int) ∧ false = false
theorem vc124 (s : ByteArray) : P124 s = vcFun C124 (ann124 s) Go.Proofs.Try.f37 [⟨.str, s⟩] [] (out124 s) := by kernel_rfl

noncomputable def C152 : Ctx := ⟨Go.Proofs.Try.prog, D, G124, (fun _ _ => none), fun _ => []⟩
def ann152 (_s : ByteArray) (_a : Int) : Nat → St → Option Ann := fun _ _ => none
def out152 (s : ByteArray) (a : Int) : COut := ⟨[ByteArray.size s ≤ 1000, 0 ≤ a ∧ a ≤ 8000], .v (.int .i64) (8 * (ByteArray.size s : Int) - a), [], []⟩
def sp152 : Spec := fun args ins => match args, ins with
  | [⟨.ref .ptr, .ptr 0 (.cons .str (.last (.int .i64))) [0]⟩], [⟨false, true, .cons .str (.last (.int .i64)), [(s, a)]⟩] => some (out152 s a)
  | _, _ => none
def G152 := addG G124 66 sp152
def P152 (s : ByteArray) (a : Int) : Prop :=
  IntKind.wrap IntKind.i64 (IntKind.wrap IntKind.i64 ((8 : Int) * (↑(ByteArray.size s) : Int)) - a) = (8 : Int) * (↑(ByteArray.size s) : Int) - a ∧ s = s ∧ a = a ∧ false = false
theorem vc152 (s : ByteArray) (a : Int) : P152 s a = vcFun C152 (ann152 s a) Go.Proofs.Try.f66 [⟨.ref .ptr, .ptr 0 (.cons .str (.last (.int .i64))) [0]⟩] [⟨false, true, .cons .str (.last (.int .i64)), [(s, a)]⟩] (out152 s a) := by kernel_rfl

noncomputable def C153 : Ctx := ⟨Go.Proofs.Try.prog, D, G152, (fun _ _ => none), fun _ => []⟩
def ann153 (_s : ByteArray) (_a : Int) : Nat → St → Option Ann := fun _ _ => none
def out153 (s : ByteArray) (a : Int) : COut := ⟨[ByteArray.size s ≤ 1000, 0 ≤ a ∧ a < 8 * (ByteArray.size s : Int)], .v (.int .i64) ((bitsS s).getD a.toNat 0), [(0, some ⟨false, true, .cons .str (.last (.int .i64)), [(s, a + 1)]⟩)], []⟩
def sp153 : Spec := fun args ins => match args, ins with
  | [⟨.ref .ptr, .ptr 0 (.cons .str (.last (.int .i64))) [0]⟩], [⟨false, true, .cons .str (.last (.int .i64)), [(s, a)]⟩] => some (out153 s a)
  | _, _ => none
def G153 := addG G152 67 sp153
def P153 (s : ByteArray) (a : Int) : Prop :=
  ((8 : Int) ≠ (0 : Int) ∧ ((0 : Int) ≤ IntKind.wrap IntKind.i64 (Int.tdiv a (8 : Int)) ∧ IntKind.wrap IntKind.i64 (Int.tdiv a (8 : Int)) < (↑(ByteArray.size s) : Int)) ∧ (8 : Int) ≠ (0 : Int) ∧ (0 : Int) ≤ IntKind.wrap
  IntKind.i64 ((7 : Int) - Int.tmod a (8 : Int))) ∧ iand IntKind.i64 (ishr IntKind.i64 (IntKind.wrap IntKind.i64 (byteAt s (Int.toNat (IntKind.wrap IntKind.i64 (Int.tdiv a (8 : Int)))))) (IntKind.wrap IntKind.i64 ((7 : Int)
  - Int.tmod a (8 : Int)))) (1 : Int) = List.getD (bitsS s) (Int.toNat a) (0 : Int) ∧ s = s ∧ IntKind.wrap IntKind.i64 (a + (1 : Int)) = a + (1 : Int) ∧ false = false
theorem vc153 (s : ByteArray) (a : Int) : P153 s a = vcFun C153 (ann153 s a) Go.Proofs.Try.f67 [⟨.ref .ptr, .ptr 0 (.cons .str (.last (.int .i64))) [0]⟩] [⟨false, true, .cons .str (.last (.int .i64)), [(s, a)]⟩] (out153 s a) := by kernel_rfl

noncomputable def C125 : Ctx := ⟨Go.Proofs.Try.prog, D, G153, (fun _ _ => none), fun _ => []⟩
def ann125 (s : ByteArray) (a n : Int) : Nat → St → Option Ann := fun _ _ => some ⟨Nat, [6, 26], [], fun j => [(27, .v (.int .i64) (j : Int)), (7, .v (.int .i64) (getN (bitsS s) a.toNat j))], fun j => [(0, some ⟨false, true, .cons .str (.last (.int .i64)), [(s, a + j)]⟩)], fun j => (j : Int) ≤ n, fun j => n.toNat - j⟩
def out125 (s : ByteArray) (a n : Int) : COut := ⟨[ByteArray.size s ≤ 1000, 0 ≤ a ∧ a ≤ 8 * (ByteArray.size s : Int), 0 ≤ n ∧ n ≤ 56], .tup [⟨.int .i64, getV s a n⟩, ⟨.int .i64, getBE s a n⟩], [(0, some ⟨false, true, .cons .str (.last (.int .i64)), [(s, getA s a n)]⟩)], []⟩
def sp125 : Spec := fun args ins => match args, ins with
  | [⟨.ref .ptr, .ptr 0 (.cons .str (.last (.int .i64))) [0]⟩, ⟨.int .i64, n⟩], [⟨false, true, .cons .str (.last (.int .i64)), [(s, a)]⟩] => some (out125 s a n)
  | _, _ => none
def G125 := addG G153 38 sp125
def P125 (s : ByteArray) (a n : Int) : Prop :=
  ∀ (b : Bool), decide (n < (0 : Int)) = b → (((!b) = true → (!b) = true) ∧ (b = false → (!b) = true)) ∧ bif bif b then true else decide ((56 : Int) < n) then (0 : Int) = getV s a n ∧ (1 : Int) = getBE s a n ∧ s = s ∧ a =
  getA s a n ∧ false = false else ∀ (b : Bool), decide ((8 : Int) * (↑(ByteArray.size s) : Int) - a < n) = b → (ByteArray.size s ≤ (1000 : Nat) ∧ ((0 : Int) ≤ a ∧ a ≤ (8000 : Int)) ∧ ((!b) = true → (!b) = true) ∧ (b = false
  → (!b) = true)) ∧ bif bif b then true else false then (0 : Int) = getV s a n ∧ (2 : Int) = getBE s a n ∧ s = s ∧ a = getA s a n ∧ false = false else ∃ (x : Nat), (((0 : Nat) = (0 : Nat) ∧ (0 : Int) = getN (bitsS s)
  (Int.toNat a) x ∧ n = n ∧ (0 : Int) = (↑x : Int) ∧ s = s ∧ a = a + (↑x : Int) ∧ false = false) ∧ (↑x : Int) ≤ n) ∧ ∀ (x : Nat), (↑x : Int) ≤ n → (IntKind.min IntKind.i64 ≤ (↑x : Int) ∧ (↑x : Int) ≤ IntKind.max IntKind.i64
  ∧ IntKind.min IntKind.i64 ≤ getN (bitsS s) (Int.toNat a) x ∧ getN (bitsS s) (Int.toNat a) x ≤ IntKind.max IntKind.i64 ∧ ∀ (y : ByteArray × Int), List.Mem y [(s, a + (↑x : Int))] → ByteArray.size (Prod.fst y) ≤
  (9223372036854775807 : Nat) ∧ IntKind.min IntKind.i64 ≤ Prod.snd y ∧ Prod.snd y ≤ IntKind.max IntKind.i64) → bif decide ((↑x : Int) < n) then (ByteArray.size s ≤ (1000 : Nat) ∧ (0 : Int) ≤ a + (↑x : Int) ∧ a + (↑x : Int)
  < (8 : Int) * (↑(ByteArray.size s) : Int)) ∧ ∃ (y : Nat), ((0 : Nat) = (0 : Nat) ∧ IntKind.wrap IntKind.i64 (IntKind.wrap IntKind.i64 ((2 : Int) * getN (bitsS s) (Int.toNat a) x) + List.getD (bitsS s) (Int.toNat (a + (↑x
  : Int))) (0 : Int)) = getN (bitsS s) (Int.toNat a) y ∧ n = n ∧ IntKind.wrap IntKind.i64 ((↑x : Int) + (1 : Int)) = (↑y : Int) ∧ s = s ∧ a + (↑x : Int) + (1 : Int) = a + (↑y : Int) ∧ false = false) ∧ (↑y : Int) ≤ n ∧
  Int.toNat n - y < Int.toNat n - x else getN (bitsS s) (Int.toNat a) x = getV s a n ∧ (0 : Int) = getBE s a n ∧ s = s ∧ a + (↑x : Int) = getA s a n ∧ false = false
theorem vc125 (s : ByteArray) (a n : Int) : P125 s a n = vcFun C125 (ann125 s a n) Go.Proofs.Try.f38 [⟨.ref .ptr, .ptr 0 (.cons .str (.last (.int .i64))) [0]⟩, ⟨.int .i64, n⟩] [⟨false, true, .cons .str (.last (.int .i64)), [(s, a)]⟩] (out125 s a n) := by kernel_rfl

noncomputable def C127 : Ctx := ⟨Go.Proofs.Try.prog, D, G125, (fun _ _ => none), fun _ => []⟩
def ann127 (s : ByteArray) (a : Int) : Nat → St → Option Ann := fun _ _ => some ⟨Nat, [3], [0], fun _ => [], fun j => [(1, some ⟨false, true, .cons .str (.last (.int .i64)), [(s, a + j)]⟩)], fun j => a + j ≤ 8 * (ByteArray.size s : Int) ∧ (((bitsS s).drop a.toNat).take j).all (fun b => decide (b ≠ 1)) = true, fun j => 8 * ByteArray.size s - j⟩
def out127 (s : ByteArray) (a : Int) : COut := ⟨[ByteArray.size s ≤ 1000, 0 ≤ a ∧ a ≤ 8 * (ByteArray.size s : Int)], .v .bool (((bitsS s).drop a.toNat).all fun b => decide (b ≠ 1)), [], []⟩
def sp127 : Spec := fun args ins => match args, ins with
  | [⟨.ref .ptr, .ptr 0 (.cons .str (.last (.int .i64))) [0]⟩], [⟨false, true, .cons .str (.last (.int .i64)), [(s, a)]⟩] => some (out127 s a)
  | _, _ => none
def G127 := addG G125 40 sp127
def P127 (s : ByteArray) (a : Int) : Prop :=
  ∃ (x : Nat), (((0 : Nat) = (0 : Nat) ∧ s = s ∧ a = a ∧ false = false ∧ s = s ∧ a = a + (↑x : Int) ∧ false = false) ∧ a + (↑x : Int) ≤ (8 : Int) * (↑(ByteArray.size s) : Int) ∧ (List.all (List.take x (List.drop (Int.toNat
  a) (bitsS s))) fun (b : Int) => decide (b ≠ (1 : Int))) = true) ∧ ∀ (x : Nat), a + (↑x : Int) ≤ (8 : Int) * (↑(ByteArray.size s) : Int) ∧ (List.all (List.take x (List.drop (Int.toNat a) (bitsS s))) fun (b : Int) => decide
  (b ≠ (1 : Int))) = true → (∀ (y : ByteArray × Int), List.Mem y [(s, a + (↑x : Int))] → ByteArray.size (Prod.fst y) ≤ (9223372036854775807 : Nat) ∧ IntKind.min IntKind.i64 ≤ Prod.snd y ∧ Prod.snd y ≤ IntKind.max
  IntKind.i64) → (ByteArray.size s ≤ (1000 : Nat) ∧ (0 : Int) ≤ a + (↑x : Int) ∧ a + (↑x : Int) ≤ (8000 : Int)) ∧ bif decide ((0 : Int) < (8 : Int) * (↑(ByteArray.size s) : Int) - (a + (↑x : Int))) then (ByteArray.size s ≤
  (1000 : Nat) ∧ (0 : Int) ≤ a + (↑x : Int) ∧ a + (↑x : Int) < (8 : Int) * (↑(ByteArray.size s) : Int)) ∧ bif decide (List.getD (bitsS s) (Int.toNat (a + (↑x : Int))) (0 : Int) = (1 : Int)) then (false = List.all (List.drop
  (Int.toNat a) (bitsS s)) fun (b : Int) => decide (b ≠ (1 : Int))) ∧ s = s ∧ a = a ∧ false = false else ∃ (y : Nat), ((0 : Nat) = (0 : Nat) ∧ s = s ∧ a = a ∧ false = false ∧ s = s ∧ a + (↑x : Int) + (1 : Int) = a + (↑y :
  Int) ∧ false = false) ∧ (a + (↑y : Int) ≤ (8 : Int) * (↑(ByteArray.size s) : Int) ∧ (List.all (List.take y (List.drop (Int.toNat a) (bitsS s))) fun (b : Int) => decide (b ≠ (1 : Int))) = true) ∧ (8 : Nat) * ByteArray.size
  s - y < (8 : Nat) * ByteArray.size s - x else (true = List.all (List.drop (Int.toNat a) (bitsS s)) fun (b : Int) => decide (b ≠ (1 : Int))) ∧ s = s ∧ a = a ∧ false = false
theorem vc127 (s : ByteArray) (a : Int) : P127 s a = vcFun C127 (ann127 s a) Go.Proofs.Try.f40 [⟨.ref .ptr, .ptr 0 (.cons .str (.last (.int .i64))) [0]⟩] [⟨false, true, .cons .str (.last (.int .i64)), [(s, a)]⟩] (out127 s a) := by kernel_rfl

noncomputable def C144 : Ctx := ⟨Go.Proofs.Try.prog, D, G127, (fun _ _ => none), fun _ => []⟩
def ann144 (_b _n : Int) (_m : Nat) (_xs : List Int) : Nat → St → Option Ann := fun _ _ => none
def out144 (b n : Int) (m : Nat) (xs : List Int) : COut := ⟨[m = xs.length, wrOk xs n, b = 0 ∨ b = 1], .tup [], [(0, some ⟨false, true, .cons (.ref .slice) (.last (.int .i64)), [(.slice 2 (.int .u8) [] 0 (packB (wL xs n ++ [b])).length, n + 1)]⟩), (1, none)], [⟨false, false, .int .u8, packB (wL xs n ++ [b])⟩]⟩
def sp144 : Spec := fun args ins => match args, ins with
  | [⟨.ref .ptr, .ptr 0 (.cons (.ref .slice) (.last (.int .i64))) [0]⟩, ⟨.int .i64, b⟩], [⟨false, true, .cons (.ref .slice) (.last (.int .i64)), [(.slice 1 (.int .u8) [] 0 m, n)]⟩, ⟨false, false, .int .u8, xs⟩] => some (out144 b n m xs)
  | _, _ => none
def G144 := addG G127 42 sp144
def P144 (b n : Int) (m : Nat) (xs : List Int) : Prop :=
  (8 : Int) ≠ (0 : Int) ∧ bif decide (Int.tmod n (8 : Int) = (0 : Int)) then ((1 : Nat) ≤ (1 : Nat) ∧ (0 : Nat) + m = List.length xs ∧ (m + (1 : Nat)) * (1 : Nat) ≤ (70368744177664 : Nat)) ∧ ((8 : Int) ≠ (0 : Int) ∧ ((0 :
  Int) ≤ IntKind.wrap IntKind.i64 (Int.tdiv n (8 : Int)) ∧ IntKind.wrap IntKind.i64 (Int.tdiv n (8 : Int)) < (↑(m + (1 : Nat)) : Int)) ∧ (0 : Nat) + Int.toNat (IntKind.wrap IntKind.i64 (Int.tdiv n (8 : Int))) < List.length
  (List.drop (0 : Nat) xs ++ seg ((0 : Int) :: List.replicate (nat_lit 0) (0 : Int)) (0 : Nat) (1 : Nat)) ∧ (8 : Int) ≠ (0 : Int) ∧ (0 : Int) ≤ IntKind.wrap IntKind.i64 ((7 : Int) - Int.tmod n (8 : Int)) ∧ ((0 : Int) ≤
  IntKind.wrap IntKind.i64 (Int.tdiv n (8 : Int)) ∧ IntKind.wrap IntKind.i64 (Int.tdiv n (8 : Int)) < (↑(m + (1 : Nat)) : Int)) ∧ (0 : Nat) + Int.toNat (IntKind.wrap IntKind.i64 (Int.tdiv n (8 : Int))) < List.length
  (List.drop (0 : Nat) xs ++ seg ((0 : Int) :: List.replicate (nat_lit 0) (0 : Int)) (0 : Nat) (1 : Nat))) ∧ (0 : Nat) = (0 : Nat) ∧ m + (1 : Nat) = List.length (packB (wL xs n ++ [b])) ∧ IntKind.wrap IntKind.i64 (n + (1 :
  Int)) = n + (1 : Int) ∧ false = false ∧ List.set (List.drop (0 : Nat) xs ++ seg ((0 : Int) :: List.replicate (nat_lit 0) (0 : Int)) (0 : Nat) (1 : Nat)) ((0 : Nat) + Int.toNat (IntKind.wrap IntKind.i64 (Int.tdiv n (8 :
  Int)))) (ior IntKind.u8 (List.getD (List.drop (0 : Nat) xs ++ seg ((0 : Int) :: List.replicate (nat_lit 0) (0 : Int)) (0 : Nat) (1 : Nat)) ((0 : Nat) + Int.toNat (IntKind.wrap IntKind.i64 (Int.tdiv n (8 : Int)))) (0 :
  Int)) (IntKind.wrap IntKind.u8 (ishl IntKind.i64 b (IntKind.wrap IntKind.i64 ((7 : Int) - Int.tmod n (8 : Int)))))) = packB (wL xs n ++ [b]) ∧ false = false else ((8 : Int) ≠ (0 : Int) ∧ ((0 : Int) ≤ IntKind.wrap
  IntKind.i64 (Int.tdiv n (8 : Int)) ∧ IntKind.wrap IntKind.i64 (Int.tdiv n (8 : Int)) < (↑m : Int)) ∧ (0 : Nat) + Int.toNat (IntKind.wrap IntKind.i64 (Int.tdiv n (8 : Int))) < List.length xs ∧ (8 : Int) ≠ (0 : Int) ∧ (0 :
  Int) ≤ IntKind.wrap IntKind.i64 ((7 : Int) - Int.tmod n (8 : Int)) ∧ ((0 : Int) ≤ IntKind.wrap IntKind.i64 (Int.tdiv n (8 : Int)) ∧ IntKind.wrap IntKind.i64 (Int.tdiv n (8 : Int)) < (↑m : Int)) ∧ (0 : Nat) + Int.toNat
  (IntKind.wrap IntKind.i64 (Int.tdiv n (8 : Int))) < List.length xs) ∧ (0 : Nat) = (0 : Nat) ∧ m = List.length (packB (wL xs n ++ [b])) ∧ IntKind.wrap IntKind.i64 (n + (1 : Int)) = n + (1 : Int) ∧ false = false ∧ List.set
  xs ((0 : Nat) + Int.toNat (IntKind.wrap IntKind.i64 (Int.tdiv n (8 : Int)))) (ior IntKind.u8 (List.getD xs ((0 : Nat) + Int.toNat (IntKind.wrap IntKind.i64 (Int.tdiv n (8 : Int)))) (0 : Int)) (IntKind.wrap IntKind.u8
  (ishl IntKind.i64 b (IntKind.wrap IntKind.i64 ((7 : Int) - Int.tmod n (8 : Int)))))) = packB (wL xs n ++ [b]) ∧ false = false
theorem vc144 (b n : Int) (m : Nat) (xs : List Int) : P144 b n m xs = vcFun C144 (ann144 b n m xs) Go.Proofs.Try.f42 [⟨.ref .ptr, .ptr 0 (.cons (.ref .slice) (.last (.int .i64))) [0]⟩, ⟨.int .i64, b⟩] [⟨false, true, .cons (.ref .slice) (.last (.int .i64)), [(.slice 1 (.int .u8) [] 0 m, n)]⟩, ⟨false, false, .int .u8, xs⟩] (out144 b n m xs) := by kernel_rfl

noncomputable def C119 : Ctx := ⟨Go.Proofs.Try.prog, D, G144, (fun _ _ => none), fun _ => []⟩
def ann119 (x n _k : Int) : Nat → St → Option Ann := fun _ _ => some ⟨Nat, [1, 7], [], fun j => [(8, .v (.int .i64) (n - 1 - j))], fun j => [(0, some ⟨false, true, .cons (.ref .slice) (.last (.int .i64)), [(.slice 1 (.int .u8) [] 0 (packB ((bitsN x n.toNat).take j)).length, (j : Int))]⟩), (1, some ⟨false, false, .int .u8, packB ((bitsN x n.toNat).take j)⟩)], fun j => (j : Int) ≤ n, fun j => n.toNat - j⟩
def out119 (x n k : Int) : COut := ⟨[k = 0, 1 ≤ n ∧ n ≤ 56, 0 ≤ x ∧ x < 2 ^ n.toNat], .v (.int .i64) 0, [(0, some ⟨false, true, .cons (.ref .slice) (.last (.int .i64)), [(.slice 1 (.int .u8) [] 0 (packB (bitsN x n.toNat)).length, n)]⟩)], [⟨false, false, .int .u8, packB (bitsN x n.toNat)⟩]⟩
def sp119 : Spec := fun args ins => match args, ins with
  | [⟨.ref .ptr, .ptr 0 (.cons (.ref .slice) (.last (.int .i64))) [0]⟩, ⟨.int .i64, x⟩, ⟨.int .i64, n⟩], [⟨false, true, .cons (.ref .slice) (.last (.int .i64)), [(.nilslice, k)]⟩] => some (out119 x n k)
  | _, _ => none
def G119 := addG G144 21 sp119
def P119 (x n k : Int) : Prop :=
  ∀ (b : Bool), false = b → ∀ (b_1 : Bool), (bif b then true else decide (n < (0 : Int))) = b_1 → (((!b) = true → (!b) = true) ∧ (b = false → (!b) = true) ∧ ((!b_1) = true → (!b_1) = true) ∧ (b_1 = false → (!b_1) = true)) ∧
  bif bif b_1 then true else decide ((56 : Int) < n) then (1 : Int) = (0 : Int) ∧ List.length (packB (bitsN x (Int.toNat n))) = (0 : Nat) ∧ k = n ∧ false = false ∧ packB (bitsN x (Int.toNat n)) = [] else ∀ (b : Bool),
  decide (x < (0 : Int)) = b → (((!b) = true → (!b) = true ∧ (!b) = true ∧ (0 : Int) ≤ n) ∧ ((!b) = true → (!b) = true) ∧ (b = false → (!b) = true)) ∧ bif bif b then true else decide ((0 : Int) < ishr IntKind.i64 x n) then
  (7 : Int) = (0 : Int) ∧ List.length (packB (bitsN x (Int.toNat n))) = (0 : Nat) ∧ k = n ∧ false = false ∧ packB (bitsN x (Int.toNat n)) = [] else ∃ (x_1 : Nat), ((x = x ∧ (0 : Nat) = (0 : Nat) ∧ IntKind.wrap IntKind.i64
  (n - (1 : Int)) = n - (1 : Int) - (↑x_1 : Int) ∧ List.length (packB (List.take x_1 (bitsN x (Int.toNat n)))) = (0 : Nat) ∧ k = (↑x_1 : Int) ∧ false = false ∧ packB (List.take x_1 (bitsN x (Int.toNat n))) = []) ∧ (↑x_1 :
  Int) ≤ n) ∧ ∀ (x_2 : Nat), (↑x_2 : Int) ≤ n → (IntKind.min IntKind.i64 ≤ n - (1 : Int) - (↑x_2 : Int) ∧ n - (1 : Int) - (↑x_2 : Int) ≤ IntKind.max IntKind.i64 ∧ (∀ (y : Ref × Int), List.Mem y [(Ref.slice (1 : Nat) (Ty.int
  IntKind.u8) [] (0 : Nat) (List.length (packB (List.take x_2 (bitsN x (Int.toNat n))))), (↑x_2 : Int))] → IntKind.min IntKind.i64 ≤ Prod.snd y ∧ Prod.snd y ≤ IntKind.max IntKind.i64) ∧ ∀ (y : Int), List.Mem y (packB
  (List.take x_2 (bitsN x (Int.toNat n)))) → IntKind.min IntKind.u8 ≤ y ∧ y ≤ IntKind.max IntKind.u8) → bif decide ((0 : Int) ≤ n - (1 : Int) - (↑x_2 : Int)) then ((0 : Int) ≤ n - (1 : Int) - (↑x_2 : Int) ∧ List.length
  (packB (List.take x_2 (bitsN x (Int.toNat n)))) = List.length (packB (List.take x_2 (bitsN x (Int.toNat n)))) ∧ wrOk (packB (List.take x_2 (bitsN x (Int.toNat n)))) (↑x_2 : Int) ∧ (iand IntKind.i64 (ishr IntKind.i64 x (n
  - (1 : Int) - (↑x_2 : Int))) (1 : Int) = (0 : Int) ∨ iand IntKind.i64 (ishr IntKind.i64 x (n - (1 : Int) - (↑x_2 : Int))) (1 : Int) = (1 : Int))) ∧ ∃ (y : Nat), (x = x ∧ (0 : Nat) = (0 : Nat) ∧ IntKind.wrap IntKind.i64 (n
  - (1 : Int) - (↑x_2 : Int) - (1 : Int)) = n - (1 : Int) - (↑y : Int) ∧ (0 : Nat) = (0 : Nat) ∧ List.length (packB (wL (packB (List.take x_2 (bitsN x (Int.toNat n)))) (↑x_2 : Int) ++ [iand IntKind.i64 (ishr IntKind.i64 x
  (n - (1 : Int) - (↑x_2 : Int))) (1 : Int)])) = List.length (packB (List.take y (bitsN x (Int.toNat n)))) ∧ (↑x_2 : Int) + (1 : Int) = (↑y : Int) ∧ false = false ∧ packB (wL (packB (List.take x_2 (bitsN x (Int.toNat n))))
  (↑x_2 : Int) ++ [iand IntKind.i64 (ishr IntKind.i64 x (n - (1 : Int) - (↑x_2 : Int))) (1 : Int)]) = packB (List.take y (bitsN x (Int.toNat n))) ∧ false = false) ∧ (↑y : Int) ≤ n ∧ Int.toNat n - y < Int.toNat n - x_2 else
  (0 : Int) = (0 : Int) ∧ (0 : Nat) = (0 : Nat) ∧ List.length (packB (List.take x_2 (bitsN x (Int.toNat n)))) = List.length (packB (bitsN x (Int.toNat n))) ∧ (↑x_2 : Int) = n ∧ false = false ∧ packB (List.take x_2 (bitsN x
  (Int.toNat n))) = packB (bitsN x (Int.toNat n)) ∧ false = false
theorem vc119 (x n k : Int) : P119 x n k = vcFun C119 (ann119 x n k) Go.Proofs.Try.f21 [⟨.ref .ptr, .ptr 0 (.cons (.ref .slice) (.last (.int .i64))) [0]⟩, ⟨.int .i64, x⟩, ⟨.int .i64, n⟩] [⟨false, true, .cons (.ref .slice) (.last (.int .i64)), [(.nilslice, k)]⟩] (out119 x n k) := by kernel_rfl

noncomputable def C119b : Ctx := ⟨Go.Proofs.Try.prog, D, G119, (fun _ _ => none), fun _ => []⟩
def ann119b (x n k : Int) (_m : Nat) (xs : List Int) : Nat → St → Option Ann := fun _ _ => some ⟨Nat, [1, 7], [], fun j => [(8, .v (.int .i64) (n - 1 - j))], fun j => [(0, some ⟨false, true, .cons (.ref .slice) (.last (.int .i64)), [(.slice 2 (.int .u8) [] 0 (packB (wL xs k ++ (bitsN x n.toNat).take j)).length, k + j)]⟩), (2, some ⟨false, false, .int .u8, packB (wL xs k ++ (bitsN x n.toNat).take j)⟩)], fun j => (j : Int) ≤ n, fun j => n.toNat - j⟩
def out119b (x n k : Int) (m : Nat) (xs : List Int) : COut := ⟨[m = xs.length, wrOk xs k ∧ k ≤ 1000, 0 ≤ n ∧ n ≤ 56, 0 ≤ x ∧ x < 2 ^ n.toNat], .v (.int .i64) 0, [(0, some ⟨false, true, .cons (.ref .slice) (.last (.int .i64)), [(.slice 2 (.int .u8) [] 0 (packB (wL xs k ++ bitsN x n.toNat)).length, k + n)]⟩), (1, none)], [⟨false, false, .int .u8, packB (wL xs k ++ bitsN x n.toNat)⟩]⟩
def sp119b : Spec := fun args ins => match args, ins with
  | [⟨.ref .ptr, .ptr 0 (.cons (.ref .slice) (.last (.int .i64))) [0]⟩, ⟨.int .i64, x⟩, ⟨.int .i64, n⟩], [⟨false, true, .cons (.ref .slice) (.last (.int .i64)), [(.slice 1 (.int .u8) [] 0 m, k)]⟩, ⟨false, false, .int .u8, xs⟩] => some (out119b x n k m xs)
  | _, _ => none
def G119b := addM G119 21 sp119b
def P119b (x n k : Int) (m : Nat) (xs : List Int) : Prop :=
  ∀ (b : Bool), false = b → ∀ (b_1 : Bool), (bif b then true else decide (n < (0 : Int))) = b_1 → (((!b) = true → (!b) = true) ∧ (b = false → (!b) = true) ∧ ((!b_1) = true → (!b_1) = true) ∧ (b_1 = false → (!b_1) = true)) ∧
  bif bif b_1 then true else decide ((56 : Int) < n) then (1 : Int) = (0 : Int) ∧ (0 : Nat) = (0 : Nat) ∧ m = List.length (packB (wL xs k ++ bitsN x (Int.toNat n))) ∧ k = k + n ∧ false = false ∧ xs = packB (wL xs k ++ bitsN
  x (Int.toNat n)) ∧ false = false else ∀ (b : Bool), decide (x < (0 : Int)) = b → (((!b) = true → (!b) = true ∧ (!b) = true ∧ (0 : Int) ≤ n) ∧ ((!b) = true → (!b) = true) ∧ (b = false → (!b) = true)) ∧ bif bif b then true
  else decide ((0 : Int) < ishr IntKind.i64 x n) then (7 : Int) = (0 : Int) ∧ (0 : Nat) = (0 : Nat) ∧ m = List.length (packB (wL xs k ++ bitsN x (Int.toNat n))) ∧ k = k + n ∧ false = false ∧ xs = packB (wL xs k ++ bitsN x
  (Int.toNat n)) ∧ false = false else ∃ (x_1 : Nat), ((x = x ∧ (0 : Nat) = (0 : Nat) ∧ IntKind.wrap IntKind.i64 (n - (1 : Int)) = n - (1 : Int) - (↑x_1 : Int) ∧ (0 : Nat) = (0 : Nat) ∧ m = List.length (packB (wL xs k ++
  List.take x_1 (bitsN x (Int.toNat n)))) ∧ k = k + (↑x_1 : Int) ∧ false = false ∧ xs = packB (wL xs k ++ List.take x_1 (bitsN x (Int.toNat n))) ∧ false = false) ∧ (↑x_1 : Int) ≤ n) ∧ ∀ (x_2 : Nat), (↑x_2 : Int) ≤ n →
  (IntKind.min IntKind.i64 ≤ n - (1 : Int) - (↑x_2 : Int) ∧ n - (1 : Int) - (↑x_2 : Int) ≤ IntKind.max IntKind.i64 ∧ (∀ (y : Ref × Int), List.Mem y [(Ref.slice (2 : Nat) (Ty.int IntKind.u8) [] (0 : Nat) (List.length (packB
  (wL xs k ++ List.take x_2 (bitsN x (Int.toNat n))))), k + (↑x_2 : Int))] → IntKind.min IntKind.i64 ≤ Prod.snd y ∧ Prod.snd y ≤ IntKind.max IntKind.i64) ∧ ∀ (y : Int), List.Mem y (packB (wL xs k ++ List.take x_2 (bitsN x
  (Int.toNat n)))) → IntKind.min IntKind.u8 ≤ y ∧ y ≤ IntKind.max IntKind.u8) → bif decide ((0 : Int) ≤ n - (1 : Int) - (↑x_2 : Int)) then ((0 : Int) ≤ n - (1 : Int) - (↑x_2 : Int) ∧ List.length (packB (wL xs k ++ List.take
  x_2 (bitsN x (Int.toNat n)))) = List.length (packB (wL xs k ++ List.take x_2 (bitsN x (Int.toNat n)))) ∧ wrOk (packB (wL xs k ++ List.take x_2 (bitsN x (Int.toNat n)))) (k + (↑x_2 : Int)) ∧ (iand IntKind.i64 (ishr
  IntKind.i64 x (n - (1 : Int) - (↑x_2 : Int))) (1 : Int) = (0 : Int) ∨ iand IntKind.i64 (ishr IntKind.i64 x (n - (1 : Int) - (↑x_2 : Int))) (1 : Int) = (1 : Int))) ∧ ∃ (y : Nat), (x = x ∧ (0 : Nat) = (0 : Nat) ∧
  IntKind.wrap IntKind.i64 (n - (1 : Int) - (↑x_2 : Int) - (1 : Int)) = n - (1 : Int) - (↑y : Int) ∧ (0 : Nat) = (0 : Nat) ∧ List.length (packB (wL (packB (wL xs k ++ List.take x_2 (bitsN x (Int.toNat n)))) (k + (↑x_2 :
  Int)) ++ [iand IntKind.i64 (ishr IntKind.i64 x (n - (1 : Int) - (↑x_2 : Int))) (1 : Int)])) = List.length (packB (wL xs k ++ List.take y (bitsN x (Int.toNat n)))) ∧ k + (↑x_2 : Int) + (1 : Int) = k + (↑y : Int) ∧ false =
  false ∧ packB (wL (packB (wL xs k ++ List.take x_2 (bitsN x (Int.toNat n)))) (k + (↑x_2 : Int)) ++ [iand IntKind.i64 (ishr IntKind.i64 x (n - (1 : Int) - (↑x_2 : Int))) (1 : Int)]) = packB (wL xs k ++ List.take y (bitsN x
  (Int.toNat n))) ∧ false = false) ∧ (↑y : Int) ≤ n ∧ Int.toNat n - y < Int.toNat n - x_2 else (0 : Int) = (0 : Int) ∧ (0 : Nat) = (0 : Nat) ∧ List.length (packB (wL xs k ++ List.take x_2 (bitsN x (Int.toNat n)))) =
  List.length (packB (wL xs k ++ bitsN x (Int.toNat n))) ∧ k + (↑x_2 : Int) = k + n ∧ false = false ∧ packB (wL xs k ++ List.take x_2 (bitsN x (Int.toNat n))) = packB (wL xs k ++ bitsN x (Int.toNat n)) ∧ false = false
theorem vc119b (x n k : Int) (m : Nat) (xs : List Int) : P119b x n k m xs = vcFun C119b (ann119b x n k m xs) Go.Proofs.Try.f21 [⟨.ref .ptr, .ptr 0 (.cons (.ref .slice) (.last (.int .i64))) [0]⟩, ⟨.int .i64, x⟩, ⟨.int .i64, n⟩] [⟨false, true, .cons (.ref .slice) (.last (.int .i64)), [(.slice 1 (.int .u8) [] 0 m, k)]⟩, ⟨false, false, .int .u8, xs⟩] (out119b x n k m xs) := by kernel_rfl

noncomputable def C120 : Ctx := ⟨Go.Proofs.Try.prog, D, G119b, (fun _ _ => none), fun _ => []⟩
def ann120 (_n : Int) (_m : Nat) (_xs : List Int) : Nat → St → Option Ann := fun _ _ => none
def out120 (_n : Int) (m : Nat) (xs : List Int) : COut := ⟨[m = xs.length], .v .str (bytesOf xs), [], []⟩
def sp120 : Spec := fun args ins => match args, ins with
  | [⟨.ref .ptr, .ptr 0 (.cons (.ref .slice) (.last (.int .i64))) [0]⟩], [⟨false, true, .cons (.ref .slice) (.last (.int .i64)), [(.slice 1 (.int .u8) [] 0 m, n)]⟩, ⟨false, false, .int .u8, xs⟩] => some (out120 n m xs)
  | _, _ => none
def G120 := addG G119b 25 sp120
def P120 (n : Int) (m : Nat) (xs : List Int) : Prop :=
  (0 : Nat) + m ≤ List.length xs ∧ bytesOf (seg xs (0 : Nat) m) = bytesOf xs ∧ (0 : Nat) = (0 : Nat) ∧ m = m ∧ n = n ∧ false = false ∧ xs = xs ∧ false = false
theorem vc120 (n : Int) (m : Nat) (xs : List Int) : P120 n m xs = vcFun C120 (ann120 n m xs) Go.Proofs.Try.f25 [⟨.ref .ptr, .ptr 0 (.cons (.ref .slice) (.last (.int .i64))) [0]⟩] [⟨false, true, .cons (.ref .slice) (.last (.int .i64)), [(.slice 1 (.int .u8) [] 0 m, n)]⟩, ⟨false, false, .int .u8, xs⟩] (out120 n m xs) := by kernel_rfl

noncomputable def C163 : Ctx := ⟨Go.Proofs.Try.prog, D, G120, (fun _ _ => none), fun _ => []⟩
def ann163 (_r _b : Int) : Nat → St → Option Ann := fun _ _ => none
def out163 (r b : Int) : COut := ⟨[0 ≤ r ∧ r < 65536, b = 0 ∨ b = 1], .tup [], [(0, some ⟨false, true, .last (.int .i64), [bitR r b]⟩)], []⟩
def sp163 : Spec := fun args ins => match args, ins with
  | [⟨.ref .ptr, .ptr 0 (.last (.int .i64)) [0]⟩, ⟨.int .i64, b⟩], [⟨false, true, .last (.int .i64), [r]⟩] => some (out163 r b)
  | _, _ => none
def G163 := addG G120 76 sp163
def P163 (r b : Int) : Prop :=
  (0 : Int) ≤ (15 : Int) ∧ (0 : Int) ≤ (1 : Int) ∧ bif decide (ixor IntKind.i64 (ishr IntKind.i64 r (15 : Int)) b = (1 : Int)) then ixor IntKind.i64 (iand IntKind.i64 (ishl IntKind.i64 r (1 : Int)) (65535 : Int)) (4129 :
  Int) = bitR r b ∧ false = false else iand IntKind.i64 (ishl IntKind.i64 r (1 : Int)) (65535 : Int) = bitR r b ∧ false = false
theorem vc163 (r b : Int) : P163 r b = vcFun C163 (ann163 r b) Go.Proofs.Try.f76 [⟨.ref .ptr, .ptr 0 (.last (.int .i64)) [0]⟩, ⟨.int .i64, b⟩] [⟨false, true, .last (.int .i64), [r]⟩] (out163 r b) := by kernel_rfl

noncomputable def C157 : Ctx := ⟨Go.Proofs.Try.prog, D, G163, (fun _ _ => none), fun _ => []⟩
def ann157 (r : Int) (s : ByteArray) : Nat → St → Option Ann := fun id S => match id with | 0 => some ⟨Nat, [1, 5, 6, 16], [], fun i => [(17, .v (.int .i64) (i : Int))], fun i => [(0, some ⟨false, true, .last (.int .i64), [crcS r ((ofBytes s).take i)]⟩)], fun i => i ≤ ByteArray.size s, fun i => ByteArray.size s - i⟩ | _ => some ⟨Nat, [1, 5, 6, 7, 16, 17], [], fun j => [(8, .v (.int .i64) (7 - (j : Int)))], fun j => [(0, some ⟨false, true, .last (.int .i64), [((bitsN ((ofBytes s).getD (S.i 17).toNat 0) 8).take j).foldl bitR (S.x 0 (.last (.int .i64)))]⟩)], fun j => j ≤ 8, fun j => 8 - j⟩
def out157 (r : Int) (s : ByteArray) : COut := ⟨[0 ≤ r ∧ r < 65536, ByteArray.size s ≤ 1000], .v (.int .i64) (crcS r (ofBytes s)), [], []⟩
def sp157 : Spec := fun args ins => match args, ins with
  | [⟨.int .i64, r⟩, ⟨.str, s⟩], [] => some (out157 r s)
  | _, _ => none
def G157 := addG G163 68 sp157
def P157 (r : Int) (s : ByteArray) : Prop :=
  ∃ (x : Nat), ((s = s ∧ (0 : Nat) = (0 : Nat) ∧ (0 : Nat) = (0 : Nat) ∧ (↑(ByteArray.size s) : Int) = (↑(ByteArray.size s) : Int) ∧ (0 : Int) = (↑x : Int) ∧ iand IntKind.i64 r (65535 : Int) = crcS r (List.take x (ofBytes
  s)) ∧ false = false) ∧ x ≤ ByteArray.size s) ∧ ∀ (x : Nat), x ≤ ByteArray.size s → (IntKind.min IntKind.i64 ≤ (↑x : Int) ∧ (↑x : Int) ≤ IntKind.max IntKind.i64 ∧ ∀ (y : Int), List.Mem y [crcS r (List.take x (ofBytes s))]
  → IntKind.min IntKind.i64 ≤ y ∧ y ≤ IntKind.max IntKind.i64) → bif decide ((↑x : Int) < (↑(ByteArray.size s) : Int)) then ∃ (x_1 : Nat), ((s = s ∧ (0 : Nat) = (0 : Nat) ∧ (0 : Nat) = (0 : Nat) ∧ (↑x : Int) = (↑x : Int) ∧
  (7 : Int) = (7 : Int) - (↑x_1 : Int) ∧ (↑(ByteArray.size s) : Int) = (↑(ByteArray.size s) : Int) ∧ (↑x : Int) = (↑x : Int) ∧ crcS r (List.take x (ofBytes s)) = List.foldl bitR (crcS r (List.take x (ofBytes s))) (List.take
  x_1 (bitsN (List.getD (ofBytes s) (Int.toNat (↑x : Int)) (0 : Int)) (8 : Nat))) ∧ false = false) ∧ x_1 ≤ (8 : Nat)) ∧ ∀ (x_2 : Nat), x_2 ≤ (8 : Nat) → (IntKind.min IntKind.i64 ≤ (7 : Int) - (↑x_2 : Int) ∧ (7 : Int) -
  (↑x_2 : Int) ≤ IntKind.max IntKind.i64 ∧ ∀ (y : Int), List.Mem y [List.foldl bitR (crcS r (List.take x (ofBytes s))) (List.take x_2 (bitsN (List.getD (ofBytes s) (Int.toNat (↑x : Int)) (0 : Int)) (8 : Nat)))] →
  IntKind.min IntKind.i64 ≤ y ∧ y ≤ IntKind.max IntKind.i64) → bif decide ((0 : Int) ≤ (7 : Int) - (↑x_2 : Int)) then (((0 : Int) ≤ (↑x : Int) ∧ (↑x : Int) < (↑(ByteArray.size s) : Int)) ∧ (0 : Int) ≤ (7 : Int) - (↑x_2 :
  Int) ∧ ((0 : Int) ≤ List.foldl bitR (crcS r (List.take x (ofBytes s))) (List.take x_2 (bitsN (List.getD (ofBytes s) (Int.toNat (↑x : Int)) (0 : Int)) (8 : Nat))) ∧ List.foldl bitR (crcS r (List.take x (ofBytes s)))
  (List.take x_2 (bitsN (List.getD (ofBytes s) (Int.toNat (↑x : Int)) (0 : Int)) (8 : Nat))) < (65536 : Int)) ∧ (iand IntKind.i64 (ishr IntKind.i64 (IntKind.wrap IntKind.i64 (byteAt s (Int.toNat (↑x : Int)))) ((7 : Int) -
  (↑x_2 : Int))) (1 : Int) = (0 : Int) ∨ iand IntKind.i64 (ishr IntKind.i64 (IntKind.wrap IntKind.i64 (byteAt s (Int.toNat (↑x : Int)))) ((7 : Int) - (↑x_2 : Int))) (1 : Int) = (1 : Int))) ∧ ∃ (y : Nat), (s = s ∧ (0 : Nat)
  = (0 : Nat) ∧ (0 : Nat) = (0 : Nat) ∧ (↑x : Int) = (↑x : Int) ∧ IntKind.wrap IntKind.i64 ((7 : Int) - (↑x_2 : Int) - (1 : Int)) = (7 : Int) - (↑y : Int) ∧ (↑(ByteArray.size s) : Int) = (↑(ByteArray.size s) : Int) ∧ (↑x :
  Int) = (↑x : Int) ∧ bitR (List.foldl bitR (crcS r (List.take x (ofBytes s))) (List.take x_2 (bitsN (List.getD (ofBytes s) (Int.toNat (↑x : Int)) (0 : Int)) (8 : Nat)))) (iand IntKind.i64 (ishr IntKind.i64 (IntKind.wrap
  IntKind.i64 (byteAt s (Int.toNat (↑x : Int)))) ((7 : Int) - (↑x_2 : Int))) (1 : Int)) = List.foldl bitR (crcS r (List.take x (ofBytes s))) (List.take y (bitsN (List.getD (ofBytes s) (Int.toNat (↑x : Int)) (0 : Int)) (8 :
  Nat))) ∧ false = false) ∧ y ≤ (8 : Nat) ∧ (8 : Nat) - y < (8 : Nat) - x_2 else ∃ (y : Nat), (s = s ∧ (0 : Nat) = (0 : Nat) ∧ (0 : Nat) = (0 : Nat) ∧ (↑(ByteArray.size s) : Int) = (↑(ByteArray.size s) : Int) ∧ IntKind.wrap
  IntKind.i64 ((↑x : Int) + (1 : Int)) = (↑y : Int) ∧ List.foldl bitR (crcS r (List.take x (ofBytes s))) (List.take x_2 (bitsN (List.getD (ofBytes s) (Int.toNat (↑x : Int)) (0 : Int)) (8 : Nat))) = crcS r (List.take y
  (ofBytes s)) ∧ false = false) ∧ y ≤ ByteArray.size s ∧ ByteArray.size s - y < ByteArray.size s - x else crcS r (List.take x (ofBytes s)) = crcS r (ofBytes s)
theorem vc157 (r : Int) (s : ByteArray) : P157 r s = vcFun C157 (ann157 r s) Go.Proofs.Try.f68 [⟨.int .i64, r⟩, ⟨.str, s⟩] [] (out157 r s) := by kernel_rfl

noncomputable def C145 : Ctx := ⟨Go.Proofs.Try.prog, D, G157, (fun _ _ => none), fun _ => []⟩
def ann145 (_s : ByteArray) : Nat → St → Option Ann := fun _ _ => none
def out145 (s : ByteArray) : COut := ⟨[ByteArray.size s ≤ 1000], .v (.int .i64) (crcS 65535 (ofBytes s)), [], []⟩
def sp145 : Spec := fun args ins => match args, ins with
  | [⟨.str, s⟩], [] => some (out145 s)
  | _, _ => none
def G145 := addG G157 47 sp145
def P145 (s : ByteArray) : Prop :=
  (((0 : Int) ≤ (65535 : Int) ∧ (65535 : Int) < (65536 : Int)) ∧ ByteArray.size s ≤ (1000 : Nat)) ∧ crcS (65535 : Int) (ofBytes s) = crcS (65535 : Int) (ofBytes s)
theorem vc145 (s : ByteArray) : P145 s = vcFun C145 (ann145 s) Go.Proofs.Try.f47 [⟨.str, s⟩] [] (out145 s) := by kernel_rfl

noncomputable def C121 : Ctx := ⟨Go.Proofs.Try.prog, D, G145, (fun _ _ => none), fun r => match r with | 1 => [1] | _ => []⟩
def ann121 (_s : ByteArray) : Nat → St → Option Ann := fun _ _ => none
def out121 (s : ByteArray) : COut := ⟨[ByteArray.size s ≤ 1000], .v .str (bytesOf (sealS (ofBytes s))), [], []⟩
def sp121 : Spec := fun args ins => match args, ins with
  | [⟨.str, s⟩], [] => some (out121 s)
  | _, _ => none
def G121 := addG G145 26 sp121
def P121 (s : ByteArray) : Prop :=
  ∀ (n : Int), crcS (65535 : Int) (ofBytes s) = n → ByteArray.size s ≤ (1000 : Nat) ∧ ((0 : Int) ≤ (8 : Int) ∧ (2 : Nat) ≤ (2 : Nat) ∧ ByteArray.size s + ByteArray.size (bytesOf (seg (IntKind.wrap IntKind.u8 (ishr
  IntKind.i64 n (8 : Int)) :: List.set (List.replicate (nat_lit 1) (0 : Int)) (nat_lit 0) (IntKind.wrap IntKind.u8 n)) (0 : Nat) (2 : Nat))) ≤ (9223372036854775807 : Nat)) ∧ ByteArray.append s (bytesOf (seg (IntKind.wrap
  IntKind.u8 (ishr IntKind.i64 n (8 : Int)) :: List.set (List.replicate (nat_lit 1) (0 : Int)) (nat_lit 0) (IntKind.wrap IntKind.u8 n)) (0 : Nat) (2 : Nat))) = bytesOf (sealS (ofBytes s))
theorem vc121 (s : ByteArray) : P121 s = vcFun C121 (ann121 s) Go.Proofs.Try.f26 [⟨.str, s⟩] [] (out121 s) := by kernel_rfl

noncomputable def C123 : Ctx := ⟨Go.Proofs.Try.prog, D, G121, (fun _ _ => none), fun _ => []⟩
def ann123 (_s : ByteArray) : Nat → St → Option Ann := fun _ _ => none
def out123 (s : ByteArray) : COut := ⟨[2 ≤ ByteArray.size s ∧ ByteArray.size s ≤ 1000], .tup [⟨.str, openS s⟩, ⟨.int .i64, openE s⟩], [], []⟩
def sp123 : Spec := fun args ins => match args, ins with
  | [⟨.str, s⟩], [] => some (out123 s)
  | _, _ => none
def G123 := addG G121 36 sp123
def P123 (s : ByteArray) : Prop :=
  bif decide ((↑(ByteArray.size s) : Int) < (2 : Int)) then { data := { toList := [] } } = openS s ∧ (2 : Int) = openE s else ((0 : Int) ≤ IntKind.wrap IntKind.i64 ((↑(ByteArray.size s) : Int) - (2 : Int)) ∧ IntKind.wrap
  IntKind.i64 ((↑(ByteArray.size s) : Int) - (2 : Int)) ≤ (↑(ByteArray.size s) : Int)) ∧ ByteArray.size (ByteArray.extract s (0 : Nat) ((0 : Nat) + (Int.toNat (IntKind.wrap IntKind.i64 ((↑(ByteArray.size s) : Int) - (2 :
  Int))) - (0 : Nat)))) ≤ (1000 : Nat) ∧ bif !decide (bytesOf (sealS (ofBytes (ByteArray.extract s (0 : Nat) ((0 : Nat) + (Int.toNat (IntKind.wrap IntKind.i64 ((↑(ByteArray.size s) : Int) - (2 : Int))) - (0 : Nat)))))) = s)
  then { data := { toList := [] } } = openS s ∧ (4 : Int) = openE s else ByteArray.extract s (0 : Nat) ((0 : Nat) + (Int.toNat (IntKind.wrap IntKind.i64 ((↑(ByteArray.size s) : Int) - (2 : Int))) - (0 : Nat))) = openS s ∧
  (0 : Int) = openE s
theorem vc123 (s : ByteArray) : P123 s = vcFun C123 (ann123 s) Go.Proofs.Try.f36 [⟨.str, s⟩] [] (out123 s) := by kernel_rfl

noncomputable def C126 : Ctx := ⟨Go.Proofs.Try.prog, D, G123, (fun _ _ => none), fun _ => []⟩
def ann126 (_s : ByteArray) (_a _k : Int) : Nat → St → Option Ann := fun _ _ => none
def out126 (s : ByteArray) (a k : Int) : COut := ⟨[ByteArray.size s ≤ 1000, 0 ≤ k ∧ k ≤ 12, 0 ≤ a ∧ a + bitsK k ≤ 8 * (ByteArray.size s : Int)], .tup [⟨.arr 4 (.int .i64), pulV s a k⟩, ⟨.int .i64, pulE s a k⟩], [(0, some ⟨false, true, .cons .str (.last (.int .i64)), [(s, a + bitsK k)]⟩)], []⟩
def sp126 : Spec := fun args ins => match args, ins with
  | [⟨.ref .ptr, .ptr 0 (.cons .str (.last (.int .i64))) [0]⟩, ⟨.int .i64, k⟩], [⟨false, true, .cons .str (.last (.int .i64)), [(s, a)]⟩] => some (out126 s a k)
  | _, _ => none
def G126 := addG G123 39 sp126
def P126 (s : ByteArray) (a k : Int) : Prop :=
  (ByteArray.size s ≤ (1000 : Nat) ∧ ((0 : Int) ≤ a ∧ a ≤ (8 : Int) * (↑(ByteArray.size s) : Int)) ∧ (0 : Int) ≤ bitsF k ∧ bitsF k ≤ (56 : Int)) ∧ bif !decide (getBE s a (bitsF k) = (0 : Int)) then (0 : Int) ::
  List.replicate (nat_lit 3) (0 : Int) = pulV s a k ∧ (3 : Int) = pulE s a k ∧ s = s ∧ getA s a (bitsF k) = a + (↑(bitsK k) : Int) ∧ false = false else bif !decide (vecE (4 : Int) k (getV s a (bitsF k)) = (0 : Int)) then (0
  : Int) :: List.replicate (nat_lit 3) (0 : Int) = pulV s a k ∧ (3 : Int) = pulE s a k ∧ s = s ∧ getA s a (bitsF k) = a + (↑(bitsK k) : Int) ∧ false = false else ((4 : Nat) ≤ List.length (vecF (4 : Int) k (getV s a (bitsF
  k))) ∧ (4 : Nat) ≤ List.length (vecF (4 : Int) k (getV s a (bitsF k)))) ∧ seg (vecF (4 : Int) k (getV s a (bitsF k))) (0 : Nat) (4 : Nat) = pulV s a k ∧ (0 : Int) = pulE s a k ∧ s = s ∧ getA s a (bitsF k) = a + (↑(bitsK
  k) : Int) ∧ false = false
theorem vc126 (s : ByteArray) (a k : Int) : P126 s a k = vcFun C126 (ann126 s a k) Go.Proofs.Try.f39 [⟨.ref .ptr, .ptr 0 (.cons .str (.last (.int .i64))) [0]⟩, ⟨.int .i64, k⟩] [⟨false, true, .cons .str (.last (.int .i64)), [(s, a)]⟩] (out126 s a k) := by kernel_rfl

end Go.SL.A

/- Bits of numbers and of texts: plain facts. -/
namespace Go.SL.A
open Go Go.SL Go.SL.S
set_option maxRecDepth 100000

theorem iand_nat (a b : Nat) (ha : a < 2 ^ 63) (hb : b < 2 ^ 63) : iand .i64 (a : Int) (b : Int) = ((a &&& b : Nat) : Int) := by
  have hx : a &&& b < 2 ^ 63 := Nat.lt_of_le_of_lt Nat.and_le_left ha
  unfold iand
  have h1 : (BitVec.ofInt IntKind.i64.bits (a : Int) &&& BitVec.ofInt IntKind.i64.bits (b : Int)).toNat = a &&& b := by
    rw [BitVec.toNat_and, BitVec.ofInt_natCast, BitVec.ofInt_natCast, BitVec.toNat_ofNat, BitVec.toNat_ofNat]
    have e : (2 : Nat) ^ IntKind.i64.bits = 18446744073709551616 := by decide
    rw [e, Nat.mod_eq_of_lt (by omega), Nat.mod_eq_of_lt (by omega)]
  rw [h1]
  exact w64 (by omega) (by omega)
theorem and_one {x : Int} (h : 0 ≤ x ∧ x < 9223372036854775808) : iand .i64 x 1 = x % 2 := by
  obtain ⟨n, rfl⟩ : ∃ n : Nat, x = n := ⟨x.toNat, by omega⟩
  have := iand_nat n 1 (by omega) (by decide)
  rw [Nat.and_one_is_mod] at this
  exact this.trans (by omega)
theorem and_mask16 {x : Int} (h : 0 ≤ x ∧ x < 9223372036854775808) : iand .i64 x 65535 = x % 65536 := by
  obtain ⟨n, rfl⟩ : ∃ n : Nat, x = n := ⟨x.toNat, by omega⟩
  have := iand_nat n 65535 (by omega) (by decide)
  rw [show (65535 : Nat) = 2 ^ 16 - 1 from rfl, Nat.and_two_pow_sub_one_eq_mod] at this
  exact this.trans (by omega)
theorem ishr_eq {x m : Int} (hm : 0 ≤ m ∧ m ≤ 64) : ishr .i64 x m = x / 2 ^ m.toNat := by
  unfold ishr
  have : min m.toNat IntKind.i64.bits = m.toNat := by
    have : IntKind.i64.bits = 64 := rfl
    omega
  rw [this, Int.fdiv_eq_ediv_of_nonneg _ (Int.pow_nonneg (by decide))]
theorem shift_fit {x : Int} (h : 0 ≤ x) (k : Nat) : 0 ≤ x / 2 ^ k ∧ x / 2 ^ k ≤ x :=
  ⟨Int.ediv_nonneg h (Int.pow_nonneg (by decide)), Int.ediv_le_self _ h⟩
theorem bit_val {x m : Int} (h : 0 ≤ x ∧ x < 9223372036854775808) (hm : 0 ≤ m ∧ m ≤ 64) : iand .i64 (ishr .i64 x m) 1 = x / 2 ^ m.toNat % 2 := by
  have := shift_fit h.1 m.toNat
  rw [ishr_eq hm, and_one (by omega)]
theorem pow_le56 {k : Nat} (h : k ≤ 56) : (2 : Int) ^ k ≤ 72057594037927936 := by
  have h1 : 2 ^ k ≤ 2 ^ 56 := Nat.pow_le_pow_right (by decide) h
  have e : ((2 ^ k : Nat) : Int) = (2 : Int) ^ k := by simp
  have e2 : (2 : Nat) ^ 56 = 72057594037927936 := by decide
  omega
theorem byte_get (s : ByteArray) (i : Nat) : byteAt s i = (ofBytes s).getD i 0 := by
  unfold byteAt ofBytes
  rw [List.getD_eq_getElem?_getD, List.getD_eq_getElem?_getD, List.getElem?_map]
  cases s.data.toList[i]? <;> rfl
theorem ofBytes_len (s : ByteArray) : (ofBytes s).length = ByteArray.size s := by unfold ofBytes ByteArray.size; simp
theorem ofBytes_byt (s : ByteArray) : Byt (ofBytes s) := fun x hx => by
  obtain ⟨b, -, rfl⟩ := List.mem_map.1 hx
  have := b.toNat_lt
  omega
theorem bytes_ofBytes (s : ByteArray) : bytesOf (ofBytes s) = s := by
  unfold bytesOf ofBytes
  rw [List.map_map]
  have : ((fun n : Int => UInt8.ofNat n.toNat) ∘ fun b : UInt8 => (b.toNat : Int)) = id := by
    funext b
    show UInt8.ofNat ((b.toNat : Int)).toNat = b
    rw [Int.toNat_natCast]; exact UInt8.ofNat_toNat
  rw [this, List.map_id]
theorem ofBytes_bytes {l : List Int} (h : Byt l) : ofBytes (bytesOf l) = l := by
  unfold bytesOf ofBytes
  simp only
  rw [List.map_map]
  refine (List.map_congr_left (g := id) fun x hx => ?_).trans (List.map_id _)
  have := h x hx
  show ((UInt8.ofNat x.toNat).toNat : Int) = x
  rw [UInt8.toNat_ofNat_of_lt' (by show x.toNat < 256; omega)]
  omega
theorem bytes_size (l : List Int) : ByteArray.size (bytesOf l) = l.length := by unfold bytesOf ByteArray.size; simp
theorem bytes_app (l m : List Int) : ByteArray.append (bytesOf l) (bytesOf m) = bytesOf (l ++ m) := by
  show bytesOf l ++ bytesOf m = _
  refine ByteArray.ext ?_
  rw [ByteArray.data_append]
  unfold bytesOf
  simp
theorem bytes_inj {l m : List Int} (hl : Byt l) (hm : Byt m) (h : bytesOf l = bytesOf m) : l = m := by
  rw [← ofBytes_bytes hl, ← ofBytes_bytes hm, h]
theorem ofBytes_ext (s : ByteArray) (a b : Nat) : ofBytes (ByteArray.extract s a b) = ((ofBytes s).take b).drop a := by
  unfold ofBytes
  rw [ByteArray.data_extract, Array.toList_extract]
  simp only [List.extract_eq_take_drop, List.map_take, List.map_drop, List.drop_take]
theorem bitsS_len (s : ByteArray) : (bitsS s).length = 8 * ByteArray.size s := by unfold bitsS; rw [unB_len, ofBytes_len]
theorem bitsS_bit (s : ByteArray) : Bit (bitsS s) := unB_bit _
theorem bitsS_at (s : ByteArray) {p : Nat} (h : p < 8 * ByteArray.size s) : (bitsS s).getD p 0 = byteAt s (p / 8) / 2 ^ (7 - p % 8) % 2 := by
  unfold bitsS; rw [unB_at _ (by rw [ofBytes_len]; exact h), byte_get]
theorem byte_01 (s : ByteArray) (i : Nat) : 0 ≤ byteAt s i ∧ byteAt s i ≤ 255 := by rw [byte_get]; exact byt_at (ofBytes_byt s) i
theorem getN_zero (U : List Int) (i : Nat) : getN U i 0 = 0 := by unfold getN; rw [List.take_zero]; rfl
theorem getN_succ {U : List Int} {i n : Nat} (h : i + n < U.length) : getN U i (n + 1) = 2 * getN U i n + U.getD (i + n) 0 := by
  unfold getN
  rw [take_snoc' 0 (by rw [List.length_drop]; omega), numB_snoc, getD_drop']
theorem getN_fits {U : List Int} (hU : Bit U) {i n : Nat} (h : i + n ≤ U.length) (hn : n ≤ 56) : 0 ≤ getN U i n ∧ getN U i n < 72057594037927936 := by
  have := getN_fit hU h
  have := pow_le56 hn
  omega
theorem wL_pack {L : List Int} {n : Int} (h : Bit L) (hn : (L.length : Int) = n) : wL (packB L) n = L := by
  unfold wL; rw [show n.toNat = L.length by omega]; exact unB_pack h
theorem wrOk_pack {L : List Int} {n : Int} (h : Bit L) (hn : (L.length : Int) = n) (hb : n ≤ 100000) : wrOk (packB L) n := by
  refine ⟨by omega, by rw [packB_len]; omega, ?_⟩
  rw [wL_pack h hn]
theorem wrOk_get {xs : List Int} {n : Int} (h : wrOk xs n) : ∃ L, Bit L ∧ (L.length : Int) = n ∧ xs = packB L ∧ wL xs n = L ∧ 0 ≤ n ∧ n ≤ 100000 := by
  obtain ⟨h1, h2, h3⟩ := h
  refine ⟨wL xs n, bit_take (unB_bit _) _, ?_, h3, rfl, h1⟩
  unfold wL; rw [List.length_take, unB_len]; omega
theorem take_bit (x : Int) {n j : Nat} (h : j < n) : (bitsN x n).take (j + 1) = (bitsN x n).take j ++ [x / 2 ^ (n - 1 - j) % 2] := by
  rw [take_snoc' 0 (by rw [bitsN_len]; exact h), List.getD_eq_getElem?_getD, bitsN_at x h]; rfl
theorem take_bit_len (x : Int) {n j : Nat} (h : j ≤ n) : ((bitsN x n).take j).length = j := by rw [List.length_take, bitsN_len]; omega
theorem or_bit : ∀ v : Fin 256, ∀ r : Fin 8, ∀ b : Fin 2, v.val % 2 ^ (8 - r.val) = 0 → ior .u8 (v.val : Int) (IntKind.u8.wrap (ishl .i64 (b.val : Int) (7 - (r.val : Int)))) = (v.val : Int) + (b.val : Int) * 2 ^ (7 - r.val) := by decide +kernel
theorem or_bits {v b : Int} {r : Nat} (hv : 0 ≤ v ∧ v ≤ 255) (hr : r < 8) (hb : b = 0 ∨ b = 1) (hm : v % 2 ^ (8 - r) = 0) : ior .u8 v (IntKind.u8.wrap (ishl .i64 b (7 - (r : Int)))) = v + b * 2 ^ (7 - r) := by
  have h := or_bit ⟨v.toNat, by omega⟩ ⟨r, hr⟩ ⟨b.toNat, by omega⟩ (by
    show v.toNat % 2 ^ (8 - r) = 0
    have e : ((2 ^ (8 - r) : Nat) : Int) = (2 : Int) ^ (8 - r) := by simp
    rw [← e] at hm
    have hv2 : ((v.toNat : Nat) : Int) = v := by omega
    rw [← hv2] at hm
    exact_mod_cast hm)
  rw [show ((v.toNat : Nat) : Int) = v by omega, show ((b.toNat : Nat) : Int) = b by omega] at h
  exact h
end Go.SL.A

/- Bits laid and read, and a sum. -/
namespace Go.SL.A
open Go Go.SL Go.SL.S
set_option maxRecDepth 100000

theorem pure124 (s : ByteArray) : P124 s := by unfold P124; simp only [eq_self, and_self]
theorem pure152 (s : ByteArray) (a : Int) (hp : ByteArray.size s ≤ 1000 ∧ 0 ≤ a ∧ a ≤ 8000) : P152 s a := by
  unfold P152
  rw [w64 (n := 8 * (ByteArray.size s : Int)) (by omega) (by omega), w64 (by omega) (by omega)]
  simp only [eq_self, and_self]
theorem pure153 (s : ByteArray) (a : Int) (hp : ByteArray.size s ≤ 1000 ∧ 0 ≤ a ∧ a < 8 * (ByteArray.size s : Int)) : P153 s a := by
  obtain ⟨h1, h2, h3⟩ := hp
  unfold P153
  rw [Int.tdiv_eq_ediv_of_nonneg h2, Int.tmod_eq_emod_of_nonneg h2, w64 (n := a / 8) (by omega) (by omega), w64 (n := 7 - a % 8) (by omega) (by omega), w64 (n := a + 1) (by omega) (by omega)]
  have hb := byte_01 s (a / 8).toNat
  rw [w64 (n := byteAt s (a / 8).toNat) (by omega) (by omega), bit_val (by omega) (by omega), bitsS_at s (by omega)]
  refine ⟨⟨by decide, ⟨by omega, by omega⟩, by decide, by omega⟩, ?_, by simp only [eq_self, and_self]⟩
  rw [show (a / 8).toNat = a.toNat / 8 by omega, show (7 - a % 8).toNat = 7 - a.toNat % 8 by omega]
theorem pure125 (s : ByteArray) (a n : Int) (hp : ByteArray.size s ≤ 1000 ∧ (0 ≤ a ∧ a ≤ 8 * (ByteArray.size s : Int)) ∧ 0 ≤ n ∧ n ≤ 56) : P125 s a n := by
  obtain ⟨h1, h2, h3⟩ := hp
  unfold P125
  simp only [eq_self, true_and, and_true]
  rintro b hb
  have hb : false = b := by rw [← hb]; exact (decide_eq_false (by omega)).symm
  subst hb
  refine ⟨by simp, ?_⟩
  rw [cond_false, decide_eq_false (show ¬ 56 < n by omega), cond_false]
  rintro b hb
  by_cases hs : 8 * (ByteArray.size s : Int) - a < n
  · rw [decide_eq_true hs] at hb
    subst hb
    rw [cond_true, cond_true]
    refine ⟨⟨h1, ⟨h2.1, by omega⟩, by simp⟩, ?_⟩
    unfold getV getBE getA
    rw [if_pos hs, if_pos hs, if_pos hs]
    exact ⟨rfl, rfl, rfl⟩
  · rw [decide_eq_false hs] at hb
    subst hb
    rw [cond_false, cond_false]
    refine ⟨⟨h1, ⟨h2.1, by omega⟩, by simp⟩, 0, ⟨⟨(getN_zero _ _).symm, rfl, by omega⟩, by omega⟩, fun x hx _ => ?_⟩
    have hU := bitsS_len s
    by_cases hxn : (x : Int) < n
    · rw [decide_eq_true hxn, cond_true]
      have hf := getN_fits (bitsS_bit s) (i := a.toNat) (n := x) (by omega) (by omega)
      have hb01 := bit_01 (bitsS_bit s) (a.toNat + x)
      rw [show (a + (x : Int)).toNat = a.toNat + x by omega, w64 (n := 2 * getN (bitsS s) a.toNat x) (by omega) (by omega), w64 (by omega) (by omega)]
      exact ⟨⟨h1, by omega, by omega⟩, x + 1, ⟨(getN_succ (by omega)).symm, step_i (by omega), by omega⟩, by omega, by omega⟩
    · rw [decide_eq_false hxn, cond_false]
      unfold getV getBE getA
      rw [if_neg hs, if_neg hs, if_neg hs, show x = n.toNat by omega]
      exact ⟨rfl, rfl, by omega⟩
theorem pure127 (s : ByteArray) (a : Int) (hp : ByteArray.size s ≤ 1000 ∧ 0 ≤ a ∧ a ≤ 8 * (ByteArray.size s : Int)) : P127 s a := by
  obtain ⟨h1, h2, h3⟩ := hp
  unfold P127
  simp only [eq_self, true_and, and_true]
  have hU := bitsS_len s
  have hD : ((bitsS s).drop a.toNat).length = 8 * ByteArray.size s - a.toNat := by rw [List.length_drop]; omega
  refine ⟨0, ⟨by omega, by omega, by rw [List.take_zero]; rfl⟩, fun x hx _ => ?_⟩
  obtain ⟨x1, x2⟩ := hx
  refine ⟨⟨h1, by omega, by omega⟩, ?_⟩
  by_cases hlt : 0 < 8 * (ByteArray.size s : Int) - (a + (x : Int))
  · rw [decide_eq_true hlt, cond_true]
    refine ⟨⟨h1, by omega, by omega⟩, ?_⟩
    have e : (bitsS s).getD (a + (x : Int)).toNat 0 = ((bitsS s).drop a.toNat).getD x 0 := by rw [getD_drop', show (a + (x : Int)).toNat = a.toNat + x by omega]
    rw [e]
    by_cases hb : ((bitsS s).drop a.toNat).getD x 0 = 1
    · rw [decide_eq_true hb, cond_true]
      symm
      refine List.all_eq_false.2 ⟨_, getD_mem (f := (bitsS s).drop a.toNat) (k := x) (d := 0) (by omega), ?_⟩
      rw [hb]; decide
    · rw [decide_eq_false hb, cond_false]
      refine ⟨x + 1, by omega, ⟨by omega, ?_⟩, by omega⟩
      rw [take_snoc' 0 (by omega), List.all_append, x2, Bool.true_and, List.all_cons, List.all_nil, Bool.and_true]
      exact decide_eq_true hb
  · rw [decide_eq_false hlt, cond_false]
    rw [List.take_of_length_le (by omega)] at x2
    exact x2.symm
theorem pure144 (b n : Int) (m : Nat) (xs : List Int) (hp : m = xs.length ∧ wrOk xs n ∧ (b = 0 ∨ b = 1)) : P144 b n m xs := by
  obtain ⟨rfl, hw, hb⟩ := hp
  obtain ⟨L, hL, hn, rfl, hwl, h0, h1⟩ := wrOk_get hw
  unfold P144
  simp only [eq_self, true_and, and_true]
  rw [hwl, Int.tdiv_eq_ediv_of_nonneg h0, Int.tmod_eq_emod_of_nonneg h0, w64 (n := n / 8) (by omega) (by omega), w64 (n := 7 - n % 8) (by omega) (by omega), w64 (n := n + 1) (by omega) (by omega)]
  simp only [eq_self, true_and]
  have hpl := packB_len L
  have e0 : seg ((0 : Int) :: List.replicate 0 0) 0 1 = [0] := rfl
  rw [e0, List.drop_zero]
  simp only [Nat.zero_add]
  rw [show (n / 8).toNat = L.length / 8 by omega]
  have hr : L.length % 8 < 8 := Nat.mod_lt _ (by omega)
  have e7 : (7 : Int) - n % 8 = 7 - ((L.length % 8 : Nat) : Int) := by omega
  refine ⟨by decide, ?_⟩
  by_cases h8 : n % 8 = 0
  · rw [decide_eq_true h8, cond_true, packB_snoc0 b (by omega), List.length_append, List.length_append]
    have h8' : L.length % 8 = 0 := by omega
    refine ⟨⟨by omega, trivial, by omega⟩, ⟨by decide, ⟨by omega, by omega⟩, by simp; omega, by decide, by omega, ⟨by omega, by omega⟩, by simp; omega⟩, by simp, ?_⟩
    have hi : L.length / 8 = (packB L).length := by omega
    rw [e7, h8', hi, List.getD_eq_getElem?_getD, List.getElem?_concat_length, List.set_append_right _ _ (Nat.le_refl _), Nat.sub_self]
    rcases hb with rfl | rfl <;> rfl
  · rw [decide_eq_false h8, cond_false, packB_snoc1 b (by omega), List.length_set]
    refine ⟨⟨by decide, ⟨by omega, by omega⟩, by omega, by decide, by omega, ⟨by omega, by omega⟩, by omega⟩, rfl, ?_⟩
    rw [e7, or_bits (byt_at (packB_byt hL) _) hr hb (by rw [packB_getD L (by omega)]; exact byteB_low rfl)]
theorem shr_zero {x n : Int} (hn : 0 ≤ n ∧ n ≤ 56) (hx : 0 ≤ x ∧ x < 2 ^ n.toNat) : ishr .i64 x n = 0 := by
  rw [ishr_eq (by omega)]; exact Int.ediv_eq_zero_of_lt hx.1 hx.2
theorem put_bit {x n : Int} (hn : 0 ≤ n ∧ n ≤ 56) (hx : 0 ≤ x ∧ x < 2 ^ n.toNat) {j : Nat} (hj : (j : Int) < n) : iand .i64 (ishr .i64 x (n - 1 - (j : Int))) 1 = x / 2 ^ (n.toNat - 1 - j) % 2 := by
  have := pow_le56 (k := n.toNat) (by omega)
  rw [bit_val (by omega) (by omega), show (n - 1 - (j : Int)).toNat = n.toNat - 1 - j by omega]
theorem pure119 (x n k : Int) (hp : k = 0 ∧ (1 ≤ n ∧ n ≤ 56) ∧ 0 ≤ x ∧ x < 2 ^ n.toNat) : P119 x n k := by
  obtain ⟨rfl, hn, hx⟩ := hp
  unfold P119
  simp only [eq_self, true_and, and_true]
  have hz := shr_zero (n := n) (by omega) hx
  rintro _ rfl b hb
  rw [cond_false] at hb
  have hb : false = b := by rw [← hb]; exact (decide_eq_false (by omega)).symm
  subst hb
  refine ⟨by simp, ?_⟩
  rw [cond_false, decide_eq_false (show ¬ 56 < n by omega), cond_false]
  rintro b hb
  have hb : false = b := by rw [← hb]; exact (decide_eq_false (by omega)).symm
  subst hb
  refine ⟨by simp; omega, ?_⟩
  rw [hz, cond_false, decide_eq_false (show ¬ (0 : Int) < 0 by omega), cond_false]
  refine ⟨0, ⟨⟨by rw [w64 (by omega) (by omega)]; omega, by rw [List.take_zero]; rfl, rfl, by rw [List.take_zero]; rfl⟩, by omega⟩, fun j hj _ => ?_⟩
  have hB := bitsN_bit x n.toNat
  by_cases hjn : (j : Int) < n
  · have hlen := take_bit_len x (n := n.toNat) (j := j) (by omega)
    rw [decide_eq_true (show 0 ≤ n - 1 - (j : Int) by omega), cond_true, put_bit (by omega) hx hjn, wL_pack (bit_take hB j) (by omega), ← take_bit x (by omega), w64 (by omega) (by omega)]
    exact ⟨⟨by omega, wrOk_pack (bit_take hB j) (by omega) (by omega), by omega⟩, j + 1, ⟨by omega, rfl, by omega, rfl⟩, by omega, by omega⟩
  · rw [decide_eq_false (show ¬ 0 ≤ n - 1 - (j : Int) by omega), cond_false, List.take_of_length_le (by rw [bitsN_len]; omega)]
    exact ⟨rfl, by omega, rfl⟩
theorem pure119b (x n k : Int) (m : Nat) (xs : List Int) (hp : m = xs.length ∧ (wrOk xs k ∧ k ≤ 1000) ∧ (0 ≤ n ∧ n ≤ 56) ∧ 0 ≤ x ∧ x < 2 ^ n.toNat) : P119b x n k m xs := by
  obtain ⟨rfl, ⟨hw, hk⟩, hn, hx⟩ := hp
  obtain ⟨L, hL, hkl, rfl, hwl, h0, h1⟩ := wrOk_get hw
  unfold P119b
  simp only [eq_self, true_and, and_true]
  rw [hwl]
  have hz := shr_zero (n := n) (by omega) hx
  rintro _ rfl b hb
  rw [cond_false] at hb
  have hb : false = b := by rw [← hb]; exact (decide_eq_false (by omega)).symm
  subst hb
  refine ⟨by simp, ?_⟩
  rw [cond_false, decide_eq_false (show ¬ 56 < n by omega), cond_false]
  rintro b hb
  have hb : false = b := by rw [← hb]; exact (decide_eq_false (by omega)).symm
  subst hb
  refine ⟨by simp; omega, ?_⟩
  rw [hz, cond_false, decide_eq_false (show ¬ (0 : Int) < 0 by omega), cond_false]
  refine ⟨0, ⟨⟨by rw [w64 (by omega) (by omega)]; omega, by rw [List.take_zero, List.append_nil], by omega, by rw [List.take_zero, List.append_nil]⟩, by omega⟩, fun j hj _ => ?_⟩
  have hB := bitsN_bit x n.toNat
  by_cases hjn : (j : Int) < n
  · have hlen := take_bit_len x (n := n.toNat) (j := j) (by omega)
    have hLj := bit_app hL (bit_take hB j)
    rw [decide_eq_true (show 0 ≤ n - 1 - (j : Int) by omega), cond_true, put_bit (by omega) hx hjn, wL_pack hLj (by rw [List.length_append]; omega), List.append_assoc, ← take_bit x (by omega), w64 (by omega) (by omega)]
    exact ⟨⟨by omega, wrOk_pack hLj (by rw [List.length_append]; omega) (by omega), by omega⟩, j + 1, ⟨by omega, rfl, by omega, rfl⟩, by omega, by omega⟩
  · rw [decide_eq_false (show ¬ 0 ≤ n - 1 - (j : Int) by omega), cond_false, List.take_of_length_le (by rw [bitsN_len]; omega)]
    exact ⟨rfl, by omega, rfl⟩
theorem pure120 (n : Int) (m : Nat) (xs : List Int) (hp : m = xs.length) : P120 n m xs := by
  subst hp
  unfold P120
  simp only [eq_self, and_true]
  refine ⟨by omega, ?_⟩
  unfold seg; rw [List.drop_zero, List.take_of_length_le (Nat.le_refl _)]
theorem pure163 (r b : Int) (hp : (0 ≤ r ∧ r < 65536) ∧ (b = 0 ∨ b = 1)) : P163 r b := by
  obtain ⟨hr, hb⟩ := hp
  unfold P163
  have e1 : ishr .i64 r 15 = r / 32768 := by rw [ishr_eq (by omega)]; rfl
  have e2 : ishl .i64 r 1 = 2 * r := by
    have : ishl .i64 r 1 = IntKind.i64.wrap (r * 2) := rfl
    rw [this, w64 (by omega) (by omega)]; omega
  have e3 : decide (ixor .i64 (r / 32768) b = 1) = !decide (r / 32768 = b) := by
    rcases (show r / 32768 = 0 ∨ r / 32768 = 1 by omega) with h | h <;> rw [h] <;> rcases hb with rfl | rfl <;> decide
  rw [e1, e2, e3, and_mask16 (by omega)]
  unfold bitR
  refine ⟨by decide, by decide, ?_⟩
  by_cases h : r / 32768 = b
  · rw [decide_eq_true h, Bool.not_true, cond_false, if_pos h]; exact ⟨rfl, rfl⟩
  · rw [decide_eq_false h, Bool.not_false, cond_true, if_neg h]; exact ⟨rfl, rfl⟩
theorem foldR_fit : ∀ {L : List Int} {r : Int}, Bit L → (0 ≤ r ∧ r < 65536) → 0 ≤ L.foldl bitR r ∧ L.foldl bitR r < 65536
  | [], _, _, h => h
  | b :: L, _r, hB, h => foldR_fit (L := L) (fun x hx => hB x (List.mem_cons_of_mem _ hx)) (bitR_fit h (hB b List.mem_cons_self))
theorem crc_step (r : Int) {xs : List Int} {i : Nat} (h : i < xs.length) : crcS r (xs.take (i + 1)) = byteR (crcS r (xs.take i)) (xs.getD i 0) := by
  rw [take_snoc' 0 h, crcS_app]; rfl
theorem pure157 (r : Int) (s : ByteArray) (hp : (0 ≤ r ∧ r < 65536) ∧ ByteArray.size s ≤ 1000) : P157 r s := by
  obtain ⟨hr, hs⟩ := hp
  have hl := ofBytes_len s
  unfold P157
  simp only [eq_self, true_and, and_true]
  refine ⟨0, ⟨⟨rfl, ?_⟩, by omega⟩, fun i hi _ => ?_⟩
  · rw [and_mask16 (by omega), List.take_zero]
    show r % 65536 = r
    omega
  by_cases h : (i : Int) < (ByteArray.size s : Int)
  · rw [decide_eq_true h, cond_true]
    have hc := crcS_fit (xs := (ofBytes s).take i) hr
    have hst := crc_step r (xs := ofBytes s) (i := i) (by omega)
    rw [Int.toNat_natCast, byte_get]
    have hb := byt_at (ofBytes_byt s) i
    generalize (ofBytes s).getD i 0 = c at *
    generalize crcS r ((ofBytes s).take i) = q at *
    have hB := bitsN_bit c 8
    refine ⟨0, ⟨⟨rfl, rfl⟩, by omega⟩, fun j hj _ => ?_⟩
    have hf := foldR_fit (bit_take hB j) hc
    by_cases h7 : 0 ≤ 7 - (j : Int)
    · rw [decide_eq_true h7, cond_true, w64 (n := c) (by omega) (by omega), bit_val (by omega) (by omega), w64 (by omega) (by omega)]
      have e : (7 - (j : Int)).toNat = 8 - 1 - j := by omega
      rw [e]
      refine ⟨⟨⟨by omega, h⟩, h7, hf, by omega⟩, j + 1, ⟨by omega, ?_⟩, by omega, by omega⟩
      rw [take_bit c (by omega), List.foldl_append]; rfl
    · have : j = 8 := by omega
      subst this
      rw [decide_eq_false h7, cond_false, List.take_of_length_le (by rw [bitsN_len]; omega)]
      exact ⟨i + 1, ⟨step_i (by omega), by rw [hst]; rfl⟩, by omega, by omega⟩
  · rw [decide_eq_false h, cond_false, List.take_of_length_le (by omega)]
theorem pure145 (s : ByteArray) (hp : ByteArray.size s ≤ 1000) : P145 s := by
  unfold P145; exact ⟨⟨by decide, hp⟩, rfl⟩
theorem seal_byt {xs : List Int} (h : Byt xs) : Byt (sealS xs) := by
  have := crcS_fit (xs := xs) (r := 65535) (by omega)
  intro x hx
  unfold sealS at hx
  rcases List.mem_append.1 hx with hx | hx
  · exact h x hx
  · simp only [List.mem_cons, List.mem_nil_iff, or_false] at hx
    rcases hx with rfl | rfl <;> omega
theorem pure121 (s : ByteArray) (hp : ByteArray.size s ≤ 1000) : P121 s := by
  unfold P121
  rintro n hn
  have hf := crcS_fit (xs := ofBytes s) (r := 65535) (by omega)
  rw [hn] at hf
  have e1 : IntKind.u8.wrap (ishr .i64 n 8) = n / 256 := by
    have : ishr .i64 n 8 = n / 256 := by rw [ishr_eq (by omega)]; rfl
    rw [this]
    have : IntKind.u8.wrap (n / 256) = n / 256 % 256 := by simp [IntKind.wrap, IntKind.bits, IntKind.signed]
    rw [this]; omega
  have e2 : IntKind.u8.wrap n = n % 256 := by simp [IntKind.wrap, IntKind.bits, IntKind.signed]
  rw [e1, e2]
  have e3 : seg (n / 256 :: List.set (List.replicate 1 0) 0 (n % 256)) 0 2 = [n / 256, n % 256] := rfl
  rw [e3, bytes_size]
  refine ⟨hp, ⟨by decide, by decide, by simp; omega⟩, ?_⟩
  conv => lhs; rw [← bytes_ofBytes s]
  rw [bytes_app]
  unfold sealS
  rw [hn]
theorem pure123 (s : ByteArray) (hp : 2 ≤ ByteArray.size s ∧ ByteArray.size s ≤ 1000) : P123 s := by
  unfold P123
  rw [decide_eq_false (show ¬ (ByteArray.size s : Int) < 2 by omega), cond_false, w64 (n := (ByteArray.size s : Int) - 2) (by omega) (by omega)]
  have e : 0 + (((ByteArray.size s : Int) - 2).toNat - 0) = ByteArray.size s - 2 := by omega
  rw [e, ofBytes_ext, List.drop_zero]
  have hB : Byt ((ofBytes s).take (ByteArray.size s - 2)) := fun x hx => ofBytes_byt s x (List.mem_of_mem_take hx)
  have hx : ByteArray.extract s 0 (ByteArray.size s - 2) = bytesOf ((ofBytes s).take (ByteArray.size s - 2)) := by
    have := ofBytes_ext s 0 (ByteArray.size s - 2)
    rw [List.drop_zero] at this
    rw [← this, bytes_ofBytes]
  rw [hx, bytes_size, List.length_take, ofBytes_len]
  refine ⟨⟨by omega, by omega⟩, by omega, ?_⟩
  unfold openS openE
  by_cases h : sealS ((ofBytes s).take (ByteArray.size s - 2)) = ofBytes s
  · rw [if_pos h, if_pos h, h, bytes_ofBytes, decide_eq_true rfl, Bool.not_true, cond_false]
    exact ⟨rfl, rfl⟩
  · have hne : ¬ bytesOf (sealS ((ofBytes s).take (ByteArray.size s - 2))) = s := fun he => h (by
      have := congrArg ofBytes he
      rw [ofBytes_bytes (seal_byt hB)] at this
      exact this)
    rw [if_neg h, if_neg h, decide_eq_false hne, Bool.not_false, cond_true]
    exact ⟨rfl, rfl⟩
theorem bitsK_le {k : Int} (h : 0 ≤ k ∧ k ≤ 12) : bitsK k ≤ 56 := by
  rcases (show k = 0 ∨ k = 1 ∨ k = 2 ∨ k = 3 ∨ k = 4 ∨ k = 5 ∨ k = 6 ∨ k = 7 ∨ k = 8 ∨ k = 9 ∨ k = 10 ∨ k = 11 ∨ k = 12 by omega) with rfl | rfl | rfl | rfl | rfl | rfl | rfl | rfl | rfl | rfl | rfl | rfl | rfl <;> decide +kernel
theorem pure126 (s : ByteArray) (a k : Int) (hp : ByteArray.size s ≤ 1000 ∧ (0 ≤ k ∧ k ≤ 12) ∧ 0 ≤ a ∧ a + bitsK k ≤ 8 * (ByteArray.size s : Int)) : P126 s a k := by
  obtain ⟨h1, hk, h2, h3⟩ := hp
  unfold P126
  have hb := cost_bits k
  have hle := bitsK_le hk
  rw [hb]
  have hn : ¬ 8 * (ByteArray.size s : Int) - a < ((bitsK k : Nat) : Int) := by omega
  have e1 : getBE s a ((bitsK k : Nat) : Int) = 0 := by unfold getBE; rw [if_neg hn]
  have e2 : getA s a ((bitsK k : Nat) : Int) = a + ((bitsK k : Nat) : Int) := by unfold getA; rw [if_neg hn]
  have e3 : getV s a ((bitsK k : Nat) : Int) = getN (bitsS s) a.toNat (bitsK k) := by unfold getV; rw [if_neg hn, Int.toNat_natCast]
  rw [e1, e2, e3]
  have hf := getN_fit (bitsS_bit s) (i := a.toNat) (n := bitsK k) (by rw [bitsS_len]; omega)
  refine ⟨⟨h1, ⟨h2, by omega⟩, by omega, by omega⟩, ?_⟩
  rw [decide_eq_true rfl, Bool.not_true, cond_false]
  unfold pulV pulE
  generalize getN (bitsS s) a.toNat (bitsK k) = i at *
  by_cases hi : i < countF 4 k
  · obtain ⟨r1, r2, -, -⟩ := row_of hk hf.1 hi
    rw [if_pos hi, if_pos hi, r1, decide_eq_true rfl, Bool.not_true, cond_false]
    refine ⟨⟨by omega, by omega⟩, ?_, rfl, by simp only [eq_self, and_self]⟩
    unfold seg; rw [List.drop_zero, List.take_of_length_le (by omega)]
  · have r1 : vecE 4 k i = 7 := by
      unfold vecE
      rw [if_pos (may_iff.2 (by omega)), if_neg (by omega)]
    rw [if_neg hi, if_neg hi, r1, decide_eq_false (by decide), Bool.not_false, cond_true]
    exact ⟨rfl, rfl, by simp only [eq_self, and_self]⟩
end Go.SL.A

/- Functions do what they are held to do. -/
namespace Go.SL.A
open Go Go.SL Go.SL.S
theorem snd124 : Sound Go.Proofs.Try.prog G124 := snd62.add ⟨_, Go.Proofs.Try.func37, by kernel_rfl, by kernel_rfl⟩ (by
  intro args ins out h hp
  unfold sp124 at h
  split at h
  · rename_i s
    cases h
    exact vcFun_ok (C := C124) good snd62 Meth.none mix Go.Proofs.Try.func37 (ann124 s) (fun hw => by rw [← vc124 s]; exact pure124 s)
  · cases h)

theorem snd152 : Sound Go.Proofs.Try.prog G152 := snd124.add ⟨_, Go.Proofs.Try.func66, by kernel_rfl, by kernel_rfl⟩ (by
  intro args ins out h hp
  unfold sp152 at h
  split at h
  · rename_i s a
    cases h
    exact vcFun_ok (C := C152) good snd124 Meth.none mix Go.Proofs.Try.func66 (ann152 s a) (fun hw => by rw [← vc152 s a]; exact pure152 s a hp)
  · cases h)

theorem snd153 : Sound Go.Proofs.Try.prog G153 := snd152.add ⟨_, Go.Proofs.Try.func67, by kernel_rfl, by kernel_rfl⟩ (by
  intro args ins out h hp
  unfold sp153 at h
  split at h
  · rename_i s a
    cases h
    exact vcFun_ok (C := C153) good snd152 Meth.none mix Go.Proofs.Try.func67 (ann153 s a) (fun hw => by rw [← vc153 s a]; exact pure153 s a hp)
  · cases h)

theorem snd125 : Sound Go.Proofs.Try.prog G125 := snd153.add ⟨_, Go.Proofs.Try.func38, by kernel_rfl, by kernel_rfl⟩ (by
  intro args ins out h hp
  unfold sp125 at h
  split at h
  · rename_i n s a
    cases h
    exact vcFun_ok (C := C125) good snd153 Meth.none mix Go.Proofs.Try.func38 (ann125 s a n) (fun hw => by rw [← vc125 s a n]; exact pure125 s a n hp)
  · cases h)

theorem snd127 : Sound Go.Proofs.Try.prog G127 := snd125.add ⟨_, Go.Proofs.Try.func40, by kernel_rfl, by kernel_rfl⟩ (by
  intro args ins out h hp
  unfold sp127 at h
  split at h
  · rename_i s a
    cases h
    exact vcFun_ok (C := C127) good snd125 Meth.none mix Go.Proofs.Try.func40 (ann127 s a) (fun hw => by rw [← vc127 s a]; exact pure127 s a hp)
  · cases h)

theorem snd144 : Sound Go.Proofs.Try.prog G144 := snd127.add ⟨_, Go.Proofs.Try.func42, by kernel_rfl, by kernel_rfl⟩ (by
  intro args ins out h hp
  unfold sp144 at h
  split at h
  · rename_i b m n xs
    cases h
    exact vcFun_ok (C := C144) good snd127 Meth.none mix Go.Proofs.Try.func42 (ann144 b n m xs) (fun hw => by rw [← vc144 b n m xs]; exact pure144 b n m xs hp)
  · cases h)

theorem snd119 : Sound Go.Proofs.Try.prog G119 := snd144.add ⟨_, Go.Proofs.Try.func21, by kernel_rfl, by kernel_rfl⟩ (by
  intro args ins out h hp
  unfold sp119 at h
  split at h
  · rename_i x n k
    cases h
    exact vcFun_ok (C := C119) good snd144 Meth.none mix Go.Proofs.Try.func21 (ann119 x n k) (fun hw => by rw [← vc119 x n k]; exact pure119 x n k hp)
  · cases h)

theorem snd119b : Sound Go.Proofs.Try.prog G119b := snd119.addM ⟨_, Go.Proofs.Try.func21, by kernel_rfl, by kernel_rfl⟩ (by
  intro args ins out h hp
  unfold sp119b at h
  split at h
  · rename_i x n m k xs
    cases h
    exact vcFun_ok (C := C119b) good snd119 Meth.none mix Go.Proofs.Try.func21 (ann119b x n k m xs) (fun hw => by rw [← vc119b x n k m xs]; exact pure119b x n k m xs hp)
  · cases h)

theorem snd120 : Sound Go.Proofs.Try.prog G120 := snd119b.add ⟨_, Go.Proofs.Try.func25, by kernel_rfl, by kernel_rfl⟩ (by
  intro args ins out h hp
  unfold sp120 at h
  split at h
  · rename_i m n xs
    cases h
    exact vcFun_ok (C := C120) good snd119b Meth.none mix Go.Proofs.Try.func25 (ann120 n m xs) (fun hw => by rw [← vc120 n m xs]; exact pure120 n m xs hp)
  · cases h)

theorem snd163 : Sound Go.Proofs.Try.prog G163 := snd120.add ⟨_, Go.Proofs.Try.func76, by kernel_rfl, by kernel_rfl⟩ (by
  intro args ins out h hp
  unfold sp163 at h
  split at h
  · rename_i b r
    cases h
    exact vcFun_ok (C := C163) good snd120 Meth.none mix Go.Proofs.Try.func76 (ann163 r b) (fun hw => by rw [← vc163 r b]; exact pure163 r b hp)
  · cases h)

theorem snd157 : Sound Go.Proofs.Try.prog G157 := snd163.add ⟨_, Go.Proofs.Try.func68, by kernel_rfl, by kernel_rfl⟩ (by
  intro args ins out h hp
  unfold sp157 at h
  split at h
  · rename_i r s
    cases h
    exact vcFun_ok (C := C157) good snd163 Meth.none mix Go.Proofs.Try.func68 (ann157 r s) (fun hw => by rw [← vc157 r s]; exact pure157 r s hp)
  · cases h)

theorem snd145 : Sound Go.Proofs.Try.prog G145 := snd157.add ⟨_, Go.Proofs.Try.func47, by kernel_rfl, by kernel_rfl⟩ (by
  intro args ins out h hp
  unfold sp145 at h
  split at h
  · rename_i s
    cases h
    exact vcFun_ok (C := C145) good snd157 Meth.none mix Go.Proofs.Try.func47 (ann145 s) (fun hw => by rw [← vc145 s]; exact pure145 s hp)
  · cases h)

theorem snd121 : Sound Go.Proofs.Try.prog G121 := snd145.add ⟨_, Go.Proofs.Try.func26, by kernel_rfl, by kernel_rfl⟩ (by
  intro args ins out h hp
  unfold sp121 at h
  split at h
  · rename_i s
    cases h
    exact vcFun_ok (C := C121) good snd145 Meth.none mix Go.Proofs.Try.func26 (ann121 s) (fun hw => by rw [← vc121 s]; exact pure121 s hp)
  · cases h)

theorem snd123 : Sound Go.Proofs.Try.prog G123 := snd121.add ⟨_, Go.Proofs.Try.func36, by kernel_rfl, by kernel_rfl⟩ (by
  intro args ins out h hp
  unfold sp123 at h
  split at h
  · rename_i s
    cases h
    exact vcFun_ok (C := C123) good snd121 Meth.none mix Go.Proofs.Try.func36 (ann123 s) (fun hw => by rw [← vc123 s]; exact pure123 s hp)
  · cases h)

theorem snd126 : Sound Go.Proofs.Try.prog G126 := snd123.add ⟨_, Go.Proofs.Try.func39, by kernel_rfl, by kernel_rfl⟩ (by
  intro args ins out h hp
  unfold sp126 at h
  split at h
  · rename_i k s a
    cases h
    exact vcFun_ok (C := C126) good snd123 Meth.none mix Go.Proofs.Try.func39 (ann126 s a k) (fun hw => by rw [← vc126 s a k]; exact pure126 s a k hp)
  · cases h)

end Go.SL.A

/- Packets laid and read: plain functions. -/
namespace Go.SL.S
open Go Go.SL
/-- A text so many times. -/
def repS (s : ByteArray) (n : Int) : ByteArray := ⟨(Lib.repeatL s.data.toList n.toNat).toArray⟩
def readV (s : ByteArray) : Int × SHQ := (readS (ofBytes s)).1
def readE (s : ByteArray) : Int := (readS (ofBytes s)).2
end Go.SL.S
namespace Go.SL.A
open Go Go.SL Go.SL.S
set_option maxRecDepth 100000
def sp122 : Spec := fun args ins => match args, ins with
  | [⟨.str, s⟩, ⟨.int .i64, n⟩], [] => some ⟨[0 ≤ n ∧ n ≤ 1000, ByteArray.size s ≤ 1000], .v .str (repS s n), [], []⟩
  | _, _ => none
def G122 := addG G126 27 sp122
end Go.SL.A

namespace Go.Proofs
open Go.Shelf
def Try.lays105_ren : Go.Shelf.Ren := ⟨fun | 105 => 27 | 212 => 48 | 99 => 49 | 165 => 50 | 166 => 51 | 170 => 52 | 169 => 53 | 263 => 69 | 264 => 70 | 206 => 71 | 240 => 72 | 241 => 73 | 276 => 77 | 277 => 78 | n => n, fun | 9 => 9 | 3 => 3 | 4 => 4 | 20 => 20 | 0 => 0 | 46 => 87 | 109 => 89 | 5 => 5 | 72 => 94 | 76 => 97 | 51 => 39 | 146 => 118 | 53 => 120 | 148 => 121 | 70 => 92 | 37 => 48 | 75 => 96 | 127 => 123 | 164 => 134 | 80 => 64 | n => n, fun | n => n⟩
theorem Try.lays105 : Go.Proofs.Lays.n105 Try.prog Try.lays105_ren := {
  mixed := by kernel_rfl
  f99 := Try.func49.trans (congrArg some (by kernel_rfl))
  f105 := Try.func27.trans (congrArg some (by kernel_rfl))
  f165 := Try.func50.trans (congrArg some (by kernel_rfl))
  f166 := Try.func51.trans (congrArg some (by kernel_rfl))
  f169 := Try.func53.trans (congrArg some (by kernel_rfl))
  f170 := Try.func52.trans (congrArg some (by kernel_rfl))
  f206 := Try.func71.trans (congrArg some (by kernel_rfl))
  f212 := Try.func48.trans (congrArg some (by kernel_rfl))
  f240 := Try.func72.trans (congrArg some (by kernel_rfl))
  f241 := Try.func73.trans (congrArg some (by kernel_rfl))
  f263 := Try.func69.trans (congrArg some (by kernel_rfl))
  f264 := Try.func70.trans (congrArg some (by kernel_rfl))
  f276 := Try.func77.trans (congrArg some (by kernel_rfl))
  f277 := Try.func78.trans (congrArg some (by kernel_rfl))
  t0 := Try.underlying0
  a0 := Try.isAgg0
  z0 := Try.sizeOf0
  v0 := Try.zeroValue0
  t3 := Try.underlying3
  a3 := Try.isAgg3
  z3 := Try.sizeOf3
  v3 := Try.zeroValue3
  t4 := Try.underlying4
  a4 := Try.isAgg4
  z4 := Try.sizeOf4
  v4 := Try.zeroValue4
  t5 := Try.underlying5
  a5 := Try.isAgg5
  z5 := Try.sizeOf5
  v5 := Try.zeroValue5
  t9 := Try.underlying9
  a9 := Try.isAgg9
  z9 := Try.sizeOf9
  v9 := Try.zeroValue9
  t20 := Try.underlying20
  a20 := Try.isAgg20
  z20 := Try.sizeOf20
  v20 := Try.zeroValue20
  t37 := Try.underlying48
  a37 := Try.isAgg48
  z37 := Try.sizeOf48
  v37 := Try.zeroValue48
  t46 := Try.underlying87
  a46 := Try.isAgg87
  z46 := Try.sizeOf87
  v46 := Try.zeroValue87
  t51 := Try.underlying39
  a51 := Try.isAgg39
  z51 := Try.sizeOf39
  v51 := Try.zeroValue39
  t53 := Try.underlying120
  a53 := Try.isAgg120
  z53 := Try.sizeOf120
  v53 := Try.zeroValue120
  t70 := Try.underlying92
  a70 := Try.isAgg92
  z70 := Try.sizeOf92
  v70 := Try.zeroValue92
  t72 := Try.underlying94
  a72 := Try.isAgg94
  z72 := Try.sizeOf94
  v72 := Try.zeroValue94
  t75 := Try.underlying96
  a75 := Try.isAgg96
  z75 := Try.sizeOf96
  v75 := Try.zeroValue96
  t76 := Try.underlying97
  a76 := Try.isAgg97
  z76 := Try.sizeOf97
  v76 := Try.zeroValue97
  t109 := Try.underlying89
  a109 := Try.isAgg89
  z109 := Try.sizeOf89
  v109 := Try.zeroValue89
  t127 := Try.underlying123
  a127 := Try.isAgg123
  z127 := Try.sizeOf123
  v127 := Try.zeroValue123
  t146 := Try.underlying118
  a146 := Try.isAgg118
  z146 := Try.sizeOf118
  v146 := Try.zeroValue118
  t148 := Try.underlying121
  a148 := Try.isAgg121
  z148 := Try.sizeOf121
  v148 := Try.zeroValue121
  t164 := Try.underlying134
  a164 := Try.isAgg134
  z164 := Try.sizeOf134
  v164 := Try.zeroValue134 }
theorem Try.Builder_Extra_105 : Builder.Extra Try.prog Try.lays105_ren := {
  sizeBuilder := by kernel_rfl
  liesBuilder := by kernel_rfl
  t5 := Try.underlying5
  a5 := Try.isAgg5
  z5 := Try.sizeOf5
  v5 := Try.zeroValue5
  infoByte := by kernel_rfl
  cellsByte := by kernel_rfl
  sizeByte := by kernel_rfl
  neB5 := by decide }
open Go.RowKit Go.Lib in
/-- **strings.Repeat: count ≥ 0, the result within one allocation: count copies of s.** (LAID: no walk: one application.) -/
theorem Try.strings_Repeat (s : ByteArray) (c : Nat) (w : World) (hc : c ≤ 9223372036854775807) (hlen : s.size * c ≤ 140737488355328) :
    Calls Try.prog 27 #[.string s, .int .i64 c] w fun e w' => e = .returned (.string ⟨(Lib.repeatL s.data.toList c).toArray⟩) ∧ Below w.heap.size w w' := Any.strings_Repeat Try.lays105 Try.Builder_Extra_105 s c w hc hlen
end Go.Proofs
namespace Go.SL.A
open Go Go.SL Go.SL.S
set_option maxRecDepth 100000
theorem rep_calls (s : ByteArray) (n : Int) (ps : List Prop) (h0 : 0 ≤ n) (h1 : n ≤ 1000) (h2 : ByteArray.size s ≤ 1000) : VCall Go.Proofs.Try.prog 27 [⟨.str, s⟩, ⟨.int .i64, n⟩] [] ⟨ps, .v .str (repS s n), [], []⟩ := by
  have hle : ByteArray.size s * n.toNat ≤ 140737488355328 := Nat.le_trans (Nat.mul_le_mul h2 (show n.toNat ≤ 1000 by omega)) (by decide)
  have e : ((n.toNat : Nat) : Int) = n := by omega
  refine VCall.of_calls [.string s, .int .i64 n] (.string (repS s n)) (fun E us hu => ?_) (fun E => ?_) (fun w => ?_)
  · obtain ⟨v, vs, rfl, g1, g2⟩ := hu
    obtain ⟨v2, vs2, rfl, g3, g4⟩ := g2
    obtain ⟨c1, c2⟩ := g1
    obtain ⟨c3, c4⟩ := g3
    rw [show vs2 = [] from g4]
    have c1 := (List.cons.inj c1).1
    have c3 := (List.cons.inj c3).1
    rw [c1, c3]
  · refine ⟨rfl, ?_⟩
    show ByteArray.size (repS s n) ≤ big
    have : ByteArray.size (repS s n) = n.toNat * s.data.toList.length := by unfold repS ByteArray.size; simp [Lib.repeatL_length]
    have h3 : s.data.toList.length = ByteArray.size s := by unfold ByteArray.size; simp
    rw [this, h3, Nat.mul_comm]
    exact Nat.le_trans hle (by decide)
  · have := Go.Proofs.Try.strings_Repeat s n.toNat w (by omega) hle
    rw [e] at this
    exact this
theorem snd122 : Sound Go.Proofs.Try.prog G122 := snd126.add ⟨_, Go.Proofs.Try.func27, by kernel_rfl, by kernel_rfl⟩ (by
  intro args ins out h hp
  unfold sp122 at h
  split at h
  · cases h
    exact rep_calls _ _ _ hp.1.1 hp.1.2 hp.2
  · cases h)
end Go.SL.A

/- Functions and what they are held to do: bound to their code. -/
namespace Go.SL.A
open Go Go.SL Go.SL.S
set_option maxRecDepth 100000
noncomputable def C81 : Ctx := ⟨Go.Proofs.Try.prog, D, G122, (fun _ _ => none), fun _ => []⟩
def ann81 (s : List Int × List (List Int)) (n : Int) : Nat → St → Option Ann := fun _ _ => some ⟨Nat, [6, 28], [1], fun i => [(29, .v (.int .i64) (i : Int))], fun _ => [], fun i => i ≤ 8 ∧ ((List.range i).all fun b => decide (pulsesF (s.2.getD b (List.replicate 4 0)) = (giveV s.1 (giveB n)).getD b 0)) = true, fun i => 8 - i⟩
def out81 (s : List Int × List (List Int)) (n : Int) : COut := ⟨[], .v .bool (packR s n), [], []⟩
def sp81 : Spec := fun args ins => match args, ins with
  | [⟨(.cons (.arr 8 (.int .i64)) (.last (.arr 8 (.arr 4 (.int .i64))))), s⟩, ⟨.int .i64, n⟩], [] => some (out81 s n)
  | _, _ => none
def G81 := addG G122 11 sp81
def P81 (s : List Int × List (List Int)) (n : Int) : Prop :=
  bif decide (giveB n = (0 : Int)) then (true = false → false = true) ∧ false = packR s n else bif !rightF (Prod.fst s) then false = packR s n else ∃ (x : Nat), (((0 : Nat) = (0 : Nat) ∧ Prod.snd s = Prod.snd s ∧ (0 : Int)
  = (↑x : Int) ∧ giveV (Prod.fst s) (giveB n) = giveV (Prod.fst s) (giveB n) ∧ false = false) ∧ x ≤ (8 : Nat) ∧ (List.all (List.range.loop x []) fun (b : Nat) => decide (pulsesF (List.getD (Prod.snd s) b (List.replicate (4
  : Nat) (0 : Int))) = List.getD (giveV (Prod.fst s) (giveB n)) b (0 : Int))) = true) ∧ ∀ (x : Nat), x ≤ (8 : Nat) ∧ (List.all (List.range.loop x []) fun (b : Nat) => decide (pulsesF (List.getD (Prod.snd s) b
  (List.replicate (4 : Nat) (0 : Int))) = List.getD (giveV (Prod.fst s) (giveB n)) b (0 : Int))) = true → IntKind.min IntKind.i64 ≤ (↑x : Int) ∧ (↑x : Int) ≤ IntKind.max IntKind.i64 → bif decide ((↑x : Int) < (8 : Int))
  then ((0 : Int) ≤ (↑x : Int) ∧ (↑x : Int) < (↑(8 : Nat) : Int)) ∧ ((4 : Nat) ≤ (9223372036854775807 : Nat) ∧ (4 : Nat) = List.length (List.getD (Prod.snd s) (Int.toNat (↑x : Int)) (List.replicate (4 : Nat) (0 : Int))) ∧
  ((0 : Int) ≤ (↑x : Int) ∧ (↑x : Int) < (↑(8 : Nat) : Int)) ∧ Int.toNat (↑x : Int) < (8 : Nat)) ∧ bif !decide (pulsesF (List.getD (Prod.snd s) (Int.toNat (↑x : Int)) (List.replicate (4 : Nat) (0 : Int))) = List.getD (giveV
  (Prod.fst s) (giveB n)) (Int.toNat (↑x : Int)) (0 : Int)) then false = packR s n else ∃ (y : Nat), ((0 : Nat) = (0 : Nat) ∧ Prod.snd s = Prod.snd s ∧ IntKind.wrap IntKind.i64 ((↑x : Int) + (1 : Int)) = (↑y : Int) ∧ giveV
  (Prod.fst s) (giveB n) = giveV (Prod.fst s) (giveB n) ∧ false = false) ∧ (y ≤ (8 : Nat) ∧ (List.all (List.range.loop y []) fun (b : Nat) => decide (pulsesF (List.getD (Prod.snd s) b (List.replicate (4 : Nat) (0 : Int))) =
  List.getD (giveV (Prod.fst s) (giveB n)) b (0 : Int))) = true) ∧ (8 : Nat) - y < (8 : Nat) - x else true = packR s n
theorem vc81 (s : List Int × List (List Int)) (n : Int) : P81 s n = vcFun C81 (ann81 s n) Go.Proofs.Try.f11 [⟨(.cons (.arr 8 (.int .i64)) (.last (.arr 8 (.arr 4 (.int .i64))))), s⟩, ⟨.int .i64, n⟩] [] (out81 s n) := by kernel_rfl

noncomputable def C82 : Ctx := ⟨Go.Proofs.Try.prog, D, G81, (fun _ _ => none), fun _ => []⟩
def ann82 (p : Int × List Int × List (List Int)) (_n : Int) : Nat → St → Option Ann := fun id _ => match id with | 1 => some ⟨Nat, [1, 2, 6, 7, 44], [0], fun i => [(45, .v (.int .i64) (i : Int))], fun i => [(1, some ⟨false, true, (.cons (.ref .slice) (.last (.int .i64))), [(.slice 3 (.int .u8) [] 0 (packB (bitsN p.1 16 ++ sideB (p.2.1.take i))).length, 16 + 4 * (i : Int))]⟩), (3, some ⟨false, false, .int .u8, packB (bitsN p.1 16 ++ sideB (p.2.1.take i))⟩)], fun i => i ≤ 8, fun i => 8 - i⟩ | _ => some ⟨Nat, [1, 6, 7, 54], [0], fun i => [(55, .v (.int .i64) (i : Int))], fun i => [(1, some ⟨false, true, (.cons (.ref .slice) (.last (.int .i64))), [(.slice 4 (.int .u8) [] 0 (packB (bitsN p.1 16 ++ sideB p.2.1 ++ rowsB (p.2.2.take i))).length, ((bitsN p.1 16 ++ sideB p.2.1 ++ rowsB (p.2.2.take i)).length : Int))]⟩), (4, some ⟨false, false, .int .u8, packB (bitsN p.1 16 ++ sideB p.2.1 ++ rowsB (p.2.2.take i))⟩)], fun i => i ≤ 8, fun i => 8 - i⟩
def out82 (p : Int × List Int × List (List Int)) (n : Int) : COut := ⟨[], .tup [⟨.str, layV p.1 p.2 n⟩, ⟨.int .i64, layE p.1 p.2 n⟩], [], []⟩
def sp82 : Spec := fun args ins => match args, ins with
  | [⟨(.cons (.int .i64) (.last (.cons (.arr 8 (.int .i64)) (.last (.arr 8 (.arr 4 (.int .i64))))))), p⟩, ⟨.int .i64, n⟩], [] => some (out82 p n)
  | _, _ => none
def G82 := addG G81 10 sp82
def P82 (p : Int × List Int × List (List Int)) (n : Int) : Prop :=
  bif decide (giveB n = (0 : Int)) then { data := { toList := [] } } = layV (Prod.fst p) (Prod.snd p) n ∧ (1 : Int) = layE (Prod.fst p) (Prod.snd p) n else ∀ (b : Bool), decide (Prod.fst p < (0 : Int)) = b → (((!b) = true →
  (!b) = true) ∧ ((!b) = true → (!b) = true) ∧ (b = false → (!b) = true)) ∧ bif bif b then true else decide ((65535 : Int) < Prod.fst p) then { data := { toList := [] } } = layV (Prod.fst p) (Prod.snd p) n ∧ (7 : Int) =
  layE (Prod.fst p) (Prod.snd p) n else bif !packR (Prod.fst (Prod.snd p), Prod.snd (Prod.snd p)) n then { data := { toList := [] } } = layV (Prod.fst p) (Prod.snd p) n ∧ (3 : Int) = layE (Prod.fst p) (Prod.snd p) n else
  ((0 : Int) = (0 : Int) ∧ ((1 : Int) ≤ (16 : Int) ∧ (16 : Int) ≤ (56 : Int)) ∧ (0 : Int) ≤ Prod.fst p ∧ Prod.fst p < (2 : Int) ^ (16 : Nat)) ∧ ∃ (x : Nat), ((n = n ∧ (0 : Nat) = (0 : Nat) ∧ (0 : Nat) = (0 : Nat) ∧ (0 :
  Nat) = (0 : Nat) ∧ Prod.fst (Prod.snd p) = Prod.fst (Prod.snd p) ∧ (0 : Int) = (↑x : Int) ∧ Prod.fst p = Prod.fst p ∧ Prod.fst (Prod.snd p) = Prod.fst (Prod.snd p) ∧ Prod.snd (Prod.snd p) = Prod.snd (Prod.snd p) ∧ false =
  false ∧ (0 : Nat) = (0 : Nat) ∧ List.length (packB (bitsN (Prod.fst p) (16 : Nat))) = List.length (packB (bitsN (Prod.fst p) (16 : Nat) ++ sideB (List.take x (Prod.fst (Prod.snd p))))) ∧ (16 : Int) = (16 : Int) + (4 :
  Int) * (↑x : Int) ∧ false = false ∧ packB (bitsN (Prod.fst p) (16 : Nat)) = packB (bitsN (Prod.fst p) (16 : Nat) ++ sideB (List.take x (Prod.fst (Prod.snd p)))) ∧ false = false) ∧ x ≤ (8 : Nat)) ∧ ∀ (x : Nat), x ≤ (8 :
  Nat) → (IntKind.min IntKind.i64 ≤ (↑x : Int) ∧ (↑x : Int) ≤ IntKind.max IntKind.i64 ∧ (∀ (y : Ref × Int), List.Mem y [(Ref.slice (3 : Nat) (Ty.int IntKind.u8) [] (0 : Nat) (List.length (packB (bitsN (Prod.fst p) (16 :
  Nat) ++ sideB (List.take x (Prod.fst (Prod.snd p)))))), (16 : Int) + (4 : Int) * (↑x : Int))] → IntKind.min IntKind.i64 ≤ Prod.snd y ∧ Prod.snd y ≤ IntKind.max IntKind.i64) ∧ ∀ (y : Int), List.Mem y (packB (bitsN
  (Prod.fst p) (16 : Nat) ++ sideB (List.take x (Prod.fst (Prod.snd p))))) → IntKind.min IntKind.u8 ≤ y ∧ y ≤ IntKind.max IntKind.u8) → bif decide ((↑x : Int) < (8 : Int)) then ((0 : Int) ≤ (↑x : Int) ∧ (↑x : Int) < (↑(8 :
  Nat) : Int)) ∧ (List.length (packB (bitsN (Prod.fst p) (16 : Nat) ++ sideB (List.take x (Prod.fst (Prod.snd p))))) = List.length (packB (bitsN (Prod.fst p) (16 : Nat) ++ sideB (List.take x (Prod.fst (Prod.snd p))))) ∧
  (wrOk (packB (bitsN (Prod.fst p) (16 : Nat) ++ sideB (List.take x (Prod.fst (Prod.snd p))))) ((16 : Int) + (4 : Int) * (↑x : Int)) ∧ (16 : Int) + (4 : Int) * (↑x : Int) ≤ (1000 : Int)) ∧ ((0 : Int) ≤ (4 : Int) ∧ (4 : Int)
  ≤ (56 : Int)) ∧ (0 : Int) ≤ List.getD (Prod.fst (Prod.snd p)) (Int.toNat (↑x : Int)) (0 : Int) ∧ List.getD (Prod.fst (Prod.snd p)) (Int.toNat (↑x : Int)) (0 : Int) < (2 : Int) ^ (4 : Nat)) ∧ ∃ (y : Nat), (n = n ∧ (0 :
  Nat) = (0 : Nat) ∧ (0 : Nat) = (0 : Nat) ∧ (0 : Nat) = (0 : Nat) ∧ Prod.fst (Prod.snd p) = Prod.fst (Prod.snd p) ∧ IntKind.wrap IntKind.i64 ((↑x : Int) + (1 : Int)) = (↑y : Int) ∧ Prod.fst p = Prod.fst p ∧ Prod.fst
  (Prod.snd p) = Prod.fst (Prod.snd p) ∧ Prod.snd (Prod.snd p) = Prod.snd (Prod.snd p) ∧ false = false ∧ (0 : Nat) = (0 : Nat) ∧ List.length (packB (wL (packB (bitsN (Prod.fst p) (16 : Nat) ++ sideB (List.take x (Prod.fst
  (Prod.snd p))))) ((16 : Int) + (4 : Int) * (↑x : Int)) ++ bitsN (List.getD (Prod.fst (Prod.snd p)) (Int.toNat (↑x : Int)) (0 : Int)) (4 : Nat))) = List.length (packB (bitsN (Prod.fst p) (16 : Nat) ++ sideB (List.take y
  (Prod.fst (Prod.snd p))))) ∧ (16 : Int) + (4 : Int) * (↑x : Int) + (4 : Int) = (16 : Int) + (4 : Int) * (↑y : Int) ∧ false = false ∧ packB (wL (packB (bitsN (Prod.fst p) (16 : Nat) ++ sideB (List.take x (Prod.fst
  (Prod.snd p))))) ((16 : Int) + (4 : Int) * (↑x : Int)) ++ bitsN (List.getD (Prod.fst (Prod.snd p)) (Int.toNat (↑x : Int)) (0 : Int)) (4 : Nat)) = packB (bitsN (Prod.fst p) (16 : Nat) ++ sideB (List.take y (Prod.fst
  (Prod.snd p)))) ∧ false = false) ∧ y ≤ (8 : Nat) ∧ (8 : Nat) - y < (8 : Nat) - x else ∃ (x_1 : Nat), ((n = n ∧ (0 : Nat) = (0 : Nat) ∧ (0 : Nat) = (0 : Nat) ∧ Prod.snd (Prod.snd p) = Prod.snd (Prod.snd p) ∧ (0 : Int) =
  (↑x_1 : Int) ∧ Prod.fst p = Prod.fst p ∧ Prod.fst (Prod.snd p) = Prod.fst (Prod.snd p) ∧ Prod.snd (Prod.snd p) = Prod.snd (Prod.snd p) ∧ false = false ∧ (0 : Nat) = (0 : Nat) ∧ List.length (packB (bitsN (Prod.fst p) (16 :
  Nat) ++ sideB (List.take x (Prod.fst (Prod.snd p))))) = List.length (packB (bitsN (Prod.fst p) (16 : Nat) ++ sideB (Prod.fst (Prod.snd p)) ++ rowsB (List.take x_1 (Prod.snd (Prod.snd p))))) ∧ (16 : Int) + (4 : Int) * (↑x
  : Int) = (↑(List.length (bitsN (Prod.fst p) (16 : Nat) ++ sideB (Prod.fst (Prod.snd p)) ++ rowsB (List.take x_1 (Prod.snd (Prod.snd p))))) : Int) ∧ false = false ∧ packB (bitsN (Prod.fst p) (16 : Nat) ++ sideB (List.take
  x (Prod.fst (Prod.snd p)))) = packB (bitsN (Prod.fst p) (16 : Nat) ++ sideB (Prod.fst (Prod.snd p)) ++ rowsB (List.take x_1 (Prod.snd (Prod.snd p)))) ∧ false = false) ∧ x_1 ≤ (8 : Nat)) ∧ ∀ (x : Nat), x ≤ (8 : Nat) →
  (IntKind.min IntKind.i64 ≤ (↑x : Int) ∧ (↑x : Int) ≤ IntKind.max IntKind.i64 ∧ (∀ (y : Ref × Int), List.Mem y [(Ref.slice (4 : Nat) (Ty.int IntKind.u8) [] (0 : Nat) (List.length (packB (bitsN (Prod.fst p) (16 : Nat) ++
  sideB (Prod.fst (Prod.snd p)) ++ rowsB (List.take x (Prod.snd (Prod.snd p)))))), (↑(List.length (bitsN (Prod.fst p) (16 : Nat) ++ sideB (Prod.fst (Prod.snd p)) ++ rowsB (List.take x (Prod.snd (Prod.snd p))))) : Int))] →
  IntKind.min IntKind.i64 ≤ Prod.snd y ∧ Prod.snd y ≤ IntKind.max IntKind.i64) ∧ ∀ (y : Int), List.Mem y (packB (bitsN (Prod.fst p) (16 : Nat) ++ sideB (Prod.fst (Prod.snd p)) ++ rowsB (List.take x (Prod.snd (Prod.snd
  p))))) → IntKind.min IntKind.u8 ≤ y ∧ y ≤ IntKind.max IntKind.u8) → bif decide ((↑x : Int) < (8 : Int)) then ((0 : Int) ≤ (↑x : Int) ∧ (↑x : Int) < (↑(8 : Nat) : Int)) ∧ ((4 : Nat) ≤ (9223372036854775807 : Nat) ∧ (4 :
  Nat) = List.length (List.getD (Prod.snd (Prod.snd p)) (Int.toNat (↑x : Int)) (List.replicate (4 : Nat) (0 : Int)))) ∧ ((4 : Nat) ≤ (9223372036854775807 : Nat) ∧ (4 : Nat) = List.length (List.getD (Prod.snd (Prod.snd p))
  (Int.toNat (↑x : Int)) (List.replicate (4 : Nat) (0 : Int))) ∧ List.length (packB (bitsN (Prod.fst p) (16 : Nat) ++ sideB (Prod.fst (Prod.snd p)) ++ rowsB (List.take x (Prod.snd (Prod.snd p))))) = List.length (packB
  (bitsN (Prod.fst p) (16 : Nat) ++ sideB (Prod.fst (Prod.snd p)) ++ rowsB (List.take x (Prod.snd (Prod.snd p))))) ∧ (wrOk (packB (bitsN (Prod.fst p) (16 : Nat) ++ sideB (Prod.fst (Prod.snd p)) ++ rowsB (List.take x
  (Prod.snd (Prod.snd p))))) (↑(List.length (bitsN (Prod.fst p) (16 : Nat) ++ sideB (Prod.fst (Prod.snd p)) ++ rowsB (List.take x (Prod.snd (Prod.snd p))))) : Int) ∧ (↑(List.length (bitsN (Prod.fst p) (16 : Nat) ++ sideB
  (Prod.fst (Prod.snd p)) ++ rowsB (List.take x (Prod.snd (Prod.snd p))))) : Int) ≤ (1000 : Int)) ∧ ((0 : Int) ≤ bitsF (pulsesF (List.getD (Prod.snd (Prod.snd p)) (Int.toNat (↑x : Int)) (List.replicate (4 : Nat) (0 :
  Int)))) ∧ bitsF (pulsesF (List.getD (Prod.snd (Prod.snd p)) (Int.toNat (↑x : Int)) (List.replicate (4 : Nat) (0 : Int)))) ≤ (56 : Int)) ∧ (0 : Int) ≤ Prod.fst (indexF (List.getD (Prod.snd (Prod.snd p)) (Int.toNat (↑x :
  Int)) (List.replicate (4 : Nat) (0 : Int)))) ∧ Prod.fst (indexF (List.getD (Prod.snd (Prod.snd p)) (Int.toNat (↑x : Int)) (List.replicate (4 : Nat) (0 : Int)))) < (2 : Int) ^ Int.toNat (bitsF (pulsesF (List.getD (Prod.snd
  (Prod.snd p)) (Int.toNat (↑x : Int)) (List.replicate (4 : Nat) (0 : Int)))))) ∧ ∃ (y : Nat), (n = n ∧ (0 : Nat) = (0 : Nat) ∧ (0 : Nat) = (0 : Nat) ∧ Prod.snd (Prod.snd p) = Prod.snd (Prod.snd p) ∧ IntKind.wrap
  IntKind.i64 ((↑x : Int) + (1 : Int)) = (↑y : Int) ∧ Prod.fst p = Prod.fst p ∧ Prod.fst (Prod.snd p) = Prod.fst (Prod.snd p) ∧ Prod.snd (Prod.snd p) = Prod.snd (Prod.snd p) ∧ false = false ∧ (0 : Nat) = (0 : Nat) ∧
  List.length (packB (wL (packB (bitsN (Prod.fst p) (16 : Nat) ++ sideB (Prod.fst (Prod.snd p)) ++ rowsB (List.take x (Prod.snd (Prod.snd p))))) (↑(List.length (bitsN (Prod.fst p) (16 : Nat) ++ sideB (Prod.fst (Prod.snd p))
  ++ rowsB (List.take x (Prod.snd (Prod.snd p))))) : Int) ++ bitsN (Prod.fst (indexF (List.getD (Prod.snd (Prod.snd p)) (Int.toNat (↑x : Int)) (List.replicate (4 : Nat) (0 : Int))))) (Int.toNat (bitsF (pulsesF (List.getD
  (Prod.snd (Prod.snd p)) (Int.toNat (↑x : Int)) (List.replicate (4 : Nat) (0 : Int)))))))) = List.length (packB (bitsN (Prod.fst p) (16 : Nat) ++ sideB (Prod.fst (Prod.snd p)) ++ rowsB (List.take y (Prod.snd (Prod.snd
  p))))) ∧ (↑(List.length (bitsN (Prod.fst p) (16 : Nat) ++ sideB (Prod.fst (Prod.snd p)) ++ rowsB (List.take x (Prod.snd (Prod.snd p))))) : Int) + bitsF (pulsesF (List.getD (Prod.snd (Prod.snd p)) (Int.toNat (↑x : Int))
  (List.replicate (4 : Nat) (0 : Int)))) = (↑(List.length (bitsN (Prod.fst p) (16 : Nat) ++ sideB (Prod.fst (Prod.snd p)) ++ rowsB (List.take y (Prod.snd (Prod.snd p))))) : Int) ∧ false = false ∧ packB (wL (packB (bitsN
  (Prod.fst p) (16 : Nat) ++ sideB (Prod.fst (Prod.snd p)) ++ rowsB (List.take x (Prod.snd (Prod.snd p))))) (↑(List.length (bitsN (Prod.fst p) (16 : Nat) ++ sideB (Prod.fst (Prod.snd p)) ++ rowsB (List.take x (Prod.snd
  (Prod.snd p))))) : Int) ++ bitsN (Prod.fst (indexF (List.getD (Prod.snd (Prod.snd p)) (Int.toNat (↑x : Int)) (List.replicate (4 : Nat) (0 : Int))))) (Int.toNat (bitsF (pulsesF (List.getD (Prod.snd (Prod.snd p)) (Int.toNat
  (↑x : Int)) (List.replicate (4 : Nat) (0 : Int))))))) = packB (bitsN (Prod.fst p) (16 : Nat) ++ sideB (Prod.fst (Prod.snd p)) ++ rowsB (List.take y (Prod.snd (Prod.snd p)))) ∧ false = false) ∧ y ≤ (8 : Nat) ∧ (8 : Nat) -
  y < (8 : Nat) - x else List.length (packB (bitsN (Prod.fst p) (16 : Nat) ++ sideB (Prod.fst (Prod.snd p)) ++ rowsB (List.take x (Prod.snd (Prod.snd p))))) = List.length (packB (bitsN (Prod.fst p) (16 : Nat) ++ sideB
  (Prod.fst (Prod.snd p)) ++ rowsB (List.take x (Prod.snd (Prod.snd p))))) ∧ (((0 : Int) ≤ IntKind.wrap IntKind.i64 (IntKind.wrap IntKind.i64 (n - (2 : Int)) - (↑(ByteArray.size (bytesOf (packB (bitsN (Prod.fst p) (16 :
  Nat) ++ sideB (Prod.fst (Prod.snd p)) ++ rowsB (List.take x (Prod.snd (Prod.snd p))))))) : Int)) ∧ IntKind.wrap IntKind.i64 (IntKind.wrap IntKind.i64 (n - (2 : Int)) - (↑(ByteArray.size (bytesOf (packB (bitsN (Prod.fst p)
  (16 : Nat) ++ sideB (Prod.fst (Prod.snd p)) ++ rowsB (List.take x (Prod.snd (Prod.snd p))))))) : Int)) ≤ (1000 : Int)) ∧ (1 : Nat) ≤ (1000 : Nat) ∧ ByteArray.size (bytesOf (packB (bitsN (Prod.fst p) (16 : Nat) ++ sideB
  (Prod.fst (Prod.snd p)) ++ rowsB (List.take x (Prod.snd (Prod.snd p)))))) + ByteArray.size (repS { data := { toList := [(0 : UInt8)] } } (IntKind.wrap IntKind.i64 (IntKind.wrap IntKind.i64 (n - (2 : Int)) -
  (↑(ByteArray.size (bytesOf (packB (bitsN (Prod.fst p) (16 : Nat) ++ sideB (Prod.fst (Prod.snd p)) ++ rowsB (List.take x (Prod.snd (Prod.snd p))))))) : Int)))) ≤ (9223372036854775807 : Nat) ∧ ByteArray.size (bytesOf (packB
  (bitsN (Prod.fst p) (16 : Nat) ++ sideB (Prod.fst (Prod.snd p)) ++ rowsB (List.take x (Prod.snd (Prod.snd p))))) ++ repS { data := { toList := [(0 : UInt8)] } } (IntKind.wrap IntKind.i64 (IntKind.wrap IntKind.i64 (n - (2
  : Int)) - (↑(ByteArray.size (bytesOf (packB (bitsN (Prod.fst p) (16 : Nat) ++ sideB (Prod.fst (Prod.snd p)) ++ rowsB (List.take x (Prod.snd (Prod.snd p))))))) : Int)))) ≤ (1000 : Nat)) ∧ bytesOf (sealS (ofBytes (bytesOf
  (packB (bitsN (Prod.fst p) (16 : Nat) ++ sideB (Prod.fst (Prod.snd p)) ++ rowsB (List.take x (Prod.snd (Prod.snd p))))) ++ repS { data := { toList := [(0 : UInt8)] } } (IntKind.wrap IntKind.i64 (IntKind.wrap IntKind.i64
  (n - (2 : Int)) - (↑(ByteArray.size (bytesOf (packB (bitsN (Prod.fst p) (16 : Nat) ++ sideB (Prod.fst (Prod.snd p)) ++ rowsB (List.take x (Prod.snd (Prod.snd p))))))) : Int)))))) = layV (Prod.fst p) (Prod.snd p) n ∧ (0 :
  Int) = layE (Prod.fst p) (Prod.snd p) n
theorem vc82 (p : Int × List Int × List (List Int)) (n : Int) : P82 p n = vcFun C82 (ann82 p n) Go.Proofs.Try.f10 [⟨(.cons (.int .i64) (.last (.cons (.arr 8 (.int .i64)) (.last (.arr 8 (.arr 4 (.int .i64))))))), p⟩, ⟨.int .i64, n⟩] [] (out82 p n) := by kernel_rfl

noncomputable def C83 : Ctx := ⟨Go.Proofs.Try.prog, D, G82, (fun _ _ => none), fun _ => []⟩
def ann83 (_s : ByteArray) : Nat → St → Option Ann := fun id S => match id with | 0 => some ⟨Nat, [0, 2, 4, 6, 7], [0], fun i => [(34, .v (.int .i64) (i : Int))], fun i => [(1, some ⟨false, true, .cons .str (.last (.int .i64)), [(S.val 4 .str, 16 + 4 * (i : Int))]⟩), (2, some ⟨false, true, (.cons (.int .i64) (.last (.cons (.arr 8 (.int .i64)) (.last (.arr 8 (.arr 4 (.int .i64))))))), [(getN (bitsS (S.val 4 .str)) 0 16, (sideR (bitsS (S.val 4 .str))).take i ++ (List.replicate 8 0).drop i, List.replicate 8 (List.replicate 4 0))]⟩)], fun i => i ≤ 8, fun i => 8 - i⟩ | _ => some ⟨Nat, [0, 2, 4, 6, 7, 9], [0, 3], fun i => [(57, .v (.int .i64) (i : Int))], fun i => [(1, some ⟨false, true, .cons .str (.last (.int .i64)), [(S.val 4 .str, (offK (S.x 3 (.arr 8 (.int .i64))) i : Int))]⟩), (2, some ⟨false, true, (.cons (.int .i64) (.last (.cons (.arr 8 (.int .i64)) (.last (.arr 8 (.arr 4 (.int .i64))))))), [(getN (bitsS (S.val 4 .str)) 0 16, sideR (bitsS (S.val 4 .str)), rowsR (bitsS (S.val 4 .str)) (S.x 3 (.arr 8 (.int .i64))) i ++ (List.replicate 8 (List.replicate 4 0)).drop i)]⟩)], fun i => i ≤ 8 ∧ okTo (bitsS (S.val 4 .str)) (S.x 3 (.arr 8 (.int .i64))) i = true, fun i => 8 - i⟩
def out83 (s : ByteArray) : COut := ⟨[], .tup [⟨(.cons (.int .i64) (.last (.cons (.arr 8 (.int .i64)) (.last (.arr 8 (.arr 4 (.int .i64))))))), readV s⟩, ⟨.int .i64, readE s⟩], [], []⟩
def sp83 : Spec := fun args ins => match args, ins with
  | [⟨.str, s⟩], [] => some (out83 s)
  | _, _ => none
def G83 := addG G82 14 sp83
def P83 (s : ByteArray) : Prop :=
  bif decide (giveB (↑(ByteArray.size s) : Int) = (0 : Int)) then (0 : Int) = Prod.fst (readV s) ∧ List.replicate (8 : Nat) (0 : Int) = Prod.fst (Prod.snd (readV s)) ∧ List.replicate (8 : Nat) (List.replicate (4 : Nat) (0 :
  Int)) = Prod.snd (Prod.snd (readV s)) ∧ (1 : Int) = readE s else ((2 : Nat) ≤ ByteArray.size s ∧ ByteArray.size s ≤ (1000 : Nat)) ∧ bif !decide (openE s = (0 : Int)) then (0 : Int) = Prod.fst (readV s) ∧ List.replicate (8
  : Nat) (0 : Int) = Prod.fst (Prod.snd (readV s)) ∧ List.replicate (8 : Nat) (List.replicate (4 : Nat) (0 : Int)) = Prod.snd (Prod.snd (readV s)) ∧ openE s = readE s else (ByteArray.size (openS s) ≤ (1000 : Nat) ∧ ((0 :
  Int) ≤ (0 : Int) ∧ (0 : Int) ≤ (8 : Int) * (↑(ByteArray.size (openS s)) : Int)) ∧ (0 : Int) ≤ (16 : Int) ∧ (16 : Int) ≤ (56 : Int)) ∧ ∃ (x : Nat), ((s = s ∧ (0 : Nat) = (0 : Nat) ∧ openS s = openS s ∧ (0 : Nat) = (0 :
  Nat) ∧ (0 : Nat) = (0 : Nat) ∧ (0 : Int) = (↑x : Int) ∧ (0 : Int) = (0 : Int) ∧ List.replicate (8 : Nat) (0 : Int) = List.replicate (8 : Nat) (0 : Int) ∧ List.replicate (8 : Nat) (List.replicate (4 : Nat) (0 : Int)) =
  List.replicate (8 : Nat) (List.replicate (4 : Nat) (0 : Int)) ∧ false = false ∧ openS s = openS s ∧ getA (openS s) (0 : Int) (16 : Int) = (16 : Int) + (4 : Int) * (↑x : Int) ∧ false = false ∧ getV (openS s) (0 : Int) (16
  : Int) = getN (bitsS (openS s)) (0 : Nat) (16 : Nat) ∧ List.replicate (8 : Nat) (0 : Int) = List.take x (sideR (bitsS (openS s))) ++ List.drop x (List.replicate (8 : Nat) (0 : Int)) ∧ List.replicate (8 : Nat)
  (List.replicate (4 : Nat) (0 : Int)) = List.replicate (8 : Nat) (List.replicate (4 : Nat) (0 : Int)) ∧ false = false) ∧ x ≤ (8 : Nat)) ∧ ∀ (x : Nat), x ≤ (8 : Nat) → (IntKind.min IntKind.i64 ≤ (↑x : Int) ∧ (↑x : Int) ≤
  IntKind.max IntKind.i64 ∧ (∀ (y : ByteArray × Int), List.Mem y [(openS s, (16 : Int) + (4 : Int) * (↑x : Int))] → ByteArray.size (Prod.fst y) ≤ (9223372036854775807 : Nat) ∧ IntKind.min IntKind.i64 ≤ Prod.snd y ∧ Prod.snd
  y ≤ IntKind.max IntKind.i64) ∧ ∀ (y : Int × List Int × List (List Int)), List.Mem y [(getN (bitsS (openS s)) (0 : Nat) (16 : Nat), List.take x (sideR (bitsS (openS s))) ++ List.drop x (List.replicate (8 : Nat) (0 : Int)),
  List.replicate (8 : Nat) (List.replicate (4 : Nat) (0 : Int)))] → IntKind.min IntKind.i64 ≤ Prod.fst y ∧ Prod.fst y ≤ IntKind.max IntKind.i64 ∧ List.length (Prod.fst (Prod.snd y)) = (8 : Nat) ∧ (∀ (y_1 : Int), List.Mem
  y_1 (Prod.fst (Prod.snd y)) → IntKind.min IntKind.i64 ≤ y_1 ∧ y_1 ≤ IntKind.max IntKind.i64) ∧ List.length (Prod.snd (Prod.snd y)) = (8 : Nat) ∧ ∀ (y_1 : List Int), List.Mem y_1 (Prod.snd (Prod.snd y)) → List.length y_1 =
  (4 : Nat) ∧ ∀ (y : Int), List.Mem y y_1 → IntKind.min IntKind.i64 ≤ y ∧ y ≤ IntKind.max IntKind.i64) → bif decide ((↑x : Int) < (8 : Int)) then (ByteArray.size (openS s) ≤ (1000 : Nat) ∧ ((0 : Int) ≤ (16 : Int) + (4 :
  Int) * (↑x : Int) ∧ (16 : Int) + (4 : Int) * (↑x : Int) ≤ (8 : Int) * (↑(ByteArray.size (openS s)) : Int)) ∧ ((0 : Int) ≤ (4 : Int) ∧ (4 : Int) ≤ (56 : Int)) ∧ ((0 : Int) ≤ (↑x : Int) ∧ (↑x : Int) < (↑(8 : Nat) : Int)) ∧
  Int.toNat (↑x : Int) < (8 : Nat)) ∧ ∃ (y : Nat), (s = s ∧ (0 : Nat) = (0 : Nat) ∧ openS s = openS s ∧ (0 : Nat) = (0 : Nat) ∧ (0 : Nat) = (0 : Nat) ∧ IntKind.wrap IntKind.i64 ((↑x : Int) + (1 : Int)) = (↑y : Int) ∧ (0 :
  Int) = (0 : Int) ∧ List.replicate (8 : Nat) (0 : Int) = List.replicate (8 : Nat) (0 : Int) ∧ List.replicate (8 : Nat) (List.replicate (4 : Nat) (0 : Int)) = List.replicate (8 : Nat) (List.replicate (4 : Nat) (0 : Int)) ∧
  false = false ∧ openS s = openS s ∧ getA (openS s) ((16 : Int) + (4 : Int) * (↑x : Int)) (4 : Int) = (16 : Int) + (4 : Int) * (↑y : Int) ∧ false = false ∧ getN (bitsS (openS s)) (0 : Nat) (16 : Nat) = getN (bitsS (openS
  s)) (0 : Nat) (16 : Nat) ∧ List.set (List.take x (sideR (bitsS (openS s))) ++ List.drop x (List.replicate (8 : Nat) (0 : Int))) (Int.toNat (↑x : Int)) (getV (openS s) ((16 : Int) + (4 : Int) * (↑x : Int)) (4 : Int)) =
  List.take y (sideR (bitsS (openS s))) ++ List.drop y (List.replicate (8 : Nat) (0 : Int)) ∧ List.replicate (8 : Nat) (List.replicate (4 : Nat) (0 : Int)) = List.replicate (8 : Nat) (List.replicate (4 : Nat) (0 : Int)) ∧
  false = false) ∧ y ≤ (8 : Nat) ∧ (8 : Nat) - y < (8 : Nat) - x else ∃ (x_1 : Nat), ((s = s ∧ (0 : Nat) = (0 : Nat) ∧ openS s = openS s ∧ (0 : Nat) = (0 : Nat) ∧ (0 : Nat) = (0 : Nat) ∧ (0 : Nat) = (0 : Nat) ∧ (0 : Int) =
  (↑x_1 : Int) ∧ (0 : Int) = (0 : Int) ∧ List.replicate (8 : Nat) (0 : Int) = List.replicate (8 : Nat) (0 : Int) ∧ List.replicate (8 : Nat) (List.replicate (4 : Nat) (0 : Int)) = List.replicate (8 : Nat) (List.replicate (4
  : Nat) (0 : Int)) ∧ false = false ∧ openS s = openS s ∧ (16 : Int) + (4 : Int) * (↑x : Int) = (↑(offK (giveV (List.take x (sideR (bitsS (openS s))) ++ List.drop x (List.replicate (8 : Nat) (0 : Int))) (giveB
  (↑(ByteArray.size s) : Int))) x_1) : Int) ∧ false = false ∧ getN (bitsS (openS s)) (0 : Nat) (16 : Nat) = getN (bitsS (openS s)) (0 : Nat) (16 : Nat) ∧ List.take x (sideR (bitsS (openS s))) ++ List.drop x (List.replicate
  (8 : Nat) (0 : Int)) = sideR (bitsS (openS s)) ∧ List.replicate (8 : Nat) (List.replicate (4 : Nat) (0 : Int)) = rowsR (bitsS (openS s)) (giveV (List.take x (sideR (bitsS (openS s))) ++ List.drop x (List.replicate (8 :
  Nat) (0 : Int))) (giveB (↑(ByteArray.size s) : Int))) x_1 ++ List.drop x_1 (List.replicate (8 : Nat) (List.replicate (4 : Nat) (0 : Int))) ∧ false = false ∧ giveV (List.take x (sideR (bitsS (openS s))) ++ List.drop x
  (List.replicate (8 : Nat) (0 : Int))) (giveB (↑(ByteArray.size s) : Int)) = giveV (List.take x (sideR (bitsS (openS s))) ++ List.drop x (List.replicate (8 : Nat) (0 : Int))) (giveB (↑(ByteArray.size s) : Int)) ∧ false =
  false) ∧ x_1 ≤ (8 : Nat) ∧ okTo (bitsS (openS s)) (giveV (List.take x (sideR (bitsS (openS s))) ++ List.drop x (List.replicate (8 : Nat) (0 : Int))) (giveB (↑(ByteArray.size s) : Int))) x_1 = true) ∧ ∀ (x_2 : Nat), x_2 ≤
  (8 : Nat) ∧ okTo (bitsS (openS s)) (giveV (List.take x (sideR (bitsS (openS s))) ++ List.drop x (List.replicate (8 : Nat) (0 : Int))) (giveB (↑(ByteArray.size s) : Int))) x_2 = true → (IntKind.min IntKind.i64 ≤ (↑x_2 :
  Int) ∧ (↑x_2 : Int) ≤ IntKind.max IntKind.i64 ∧ (∀ (y : ByteArray × Int), List.Mem y [(openS s, (↑(offK (giveV (List.take x (sideR (bitsS (openS s))) ++ List.drop x (List.replicate (8 : Nat) (0 : Int))) (giveB
  (↑(ByteArray.size s) : Int))) x_2) : Int))] → ByteArray.size (Prod.fst y) ≤ (9223372036854775807 : Nat) ∧ IntKind.min IntKind.i64 ≤ Prod.snd y ∧ Prod.snd y ≤ IntKind.max IntKind.i64) ∧ ∀ (y : Int × List Int × List (List
  Int)), List.Mem y [(getN (bitsS (openS s)) (0 : Nat) (16 : Nat), sideR (bitsS (openS s)), rowsR (bitsS (openS s)) (giveV (List.take x (sideR (bitsS (openS s))) ++ List.drop x (List.replicate (8 : Nat) (0 : Int))) (giveB
  (↑(ByteArray.size s) : Int))) x_2 ++ List.drop x_2 (List.replicate (8 : Nat) (List.replicate (4 : Nat) (0 : Int))))] → IntKind.min IntKind.i64 ≤ Prod.fst y ∧ Prod.fst y ≤ IntKind.max IntKind.i64 ∧ List.length (Prod.fst
  (Prod.snd y)) = (8 : Nat) ∧ (∀ (y_1 : Int), List.Mem y_1 (Prod.fst (Prod.snd y)) → IntKind.min IntKind.i64 ≤ y_1 ∧ y_1 ≤ IntKind.max IntKind.i64) ∧ List.length (Prod.snd (Prod.snd y)) = (8 : Nat) ∧ ∀ (y_1 : List Int),
  List.Mem y_1 (Prod.snd (Prod.snd y)) → List.length y_1 = (4 : Nat) ∧ ∀ (y : Int), List.Mem y y_1 → IntKind.min IntKind.i64 ≤ y ∧ y ≤ IntKind.max IntKind.i64) → bif decide ((↑x_2 : Int) < (8 : Int)) then (((0 : Int) ≤
  (↑x_2 : Int) ∧ (↑x_2 : Int) < (↑(8 : Nat) : Int)) ∧ Int.toNat (↑x_2 : Int) < (8 : Nat) ∧ ByteArray.size (openS s) ≤ (1000 : Nat) ∧ ((0 : Int) ≤ List.getD (giveV (List.take x (sideR (bitsS (openS s))) ++ List.drop x
  (List.replicate (8 : Nat) (0 : Int))) (giveB (↑(ByteArray.size s) : Int))) (Int.toNat (↑x_2 : Int)) (0 : Int) ∧ List.getD (giveV (List.take x (sideR (bitsS (openS s))) ++ List.drop x (List.replicate (8 : Nat) (0 : Int)))
  (giveB (↑(ByteArray.size s) : Int))) (Int.toNat (↑x_2 : Int)) (0 : Int) ≤ (12 : Int)) ∧ ((0 : Int) ≤ (↑(offK (giveV (List.take x (sideR (bitsS (openS s))) ++ List.drop x (List.replicate (8 : Nat) (0 : Int))) (giveB
  (↑(ByteArray.size s) : Int))) x_2) : Int) ∧ (↑(offK (giveV (List.take x (sideR (bitsS (openS s))) ++ List.drop x (List.replicate (8 : Nat) (0 : Int))) (giveB (↑(ByteArray.size s) : Int))) x_2) : Int) + (↑(bitsK (List.getD
  (giveV (List.take x (sideR (bitsS (openS s))) ++ List.drop x (List.replicate (8 : Nat) (0 : Int))) (giveB (↑(ByteArray.size s) : Int))) (Int.toNat (↑x_2 : Int)) (0 : Int))) : Int) ≤ (8 : Int) * (↑(ByteArray.size (openS
  s)) : Int)) ∧ ((0 : Int) ≤ (↑x_2 : Int) ∧ (↑x_2 : Int) < (↑(8 : Nat) : Int)) ∧ Int.toNat (↑x_2 : Int) < (8 : Nat)) ∧ bif !decide (pulE (openS s) (↑(offK (giveV (List.take x (sideR (bitsS (openS s))) ++ List.drop x
  (List.replicate (8 : Nat) (0 : Int))) (giveB (↑(ByteArray.size s) : Int))) x_2) : Int) (List.getD (giveV (List.take x (sideR (bitsS (openS s))) ++ List.drop x (List.replicate (8 : Nat) (0 : Int))) (giveB (↑(ByteArray.size
  s) : Int))) (Int.toNat (↑x_2 : Int)) (0 : Int)) = (0 : Int)) then (0 : Int) = Prod.fst (readV s) ∧ List.replicate (8 : Nat) (0 : Int) = Prod.fst (Prod.snd (readV s)) ∧ List.replicate (8 : Nat) (List.replicate (4 : Nat) (0
  : Int)) = Prod.snd (Prod.snd (readV s)) ∧ pulE (openS s) (↑(offK (giveV (List.take x (sideR (bitsS (openS s))) ++ List.drop x (List.replicate (8 : Nat) (0 : Int))) (giveB (↑(ByteArray.size s) : Int))) x_2) : Int)
  (List.getD (giveV (List.take x (sideR (bitsS (openS s))) ++ List.drop x (List.replicate (8 : Nat) (0 : Int))) (giveB (↑(ByteArray.size s) : Int))) (Int.toNat (↑x_2 : Int)) (0 : Int)) = readE s else ∃ (y : Nat), (s = s ∧
  (0 : Nat) = (0 : Nat) ∧ openS s = openS s ∧ (0 : Nat) = (0 : Nat) ∧ (0 : Nat) = (0 : Nat) ∧ (0 : Nat) = (0 : Nat) ∧ IntKind.wrap IntKind.i64 ((↑x_2 : Int) + (1 : Int)) = (↑y : Int) ∧ (0 : Int) = (0 : Int) ∧ List.replicate
  (8 : Nat) (0 : Int) = List.replicate (8 : Nat) (0 : Int) ∧ List.replicate (8 : Nat) (List.replicate (4 : Nat) (0 : Int)) = List.replicate (8 : Nat) (List.replicate (4 : Nat) (0 : Int)) ∧ false = false ∧ openS s = openS s
  ∧ (↑(offK (giveV (List.take x (sideR (bitsS (openS s))) ++ List.drop x (List.replicate (8 : Nat) (0 : Int))) (giveB (↑(ByteArray.size s) : Int))) x_2) : Int) + (↑(bitsK (List.getD (giveV (List.take x (sideR (bitsS (openS
  s))) ++ List.drop x (List.replicate (8 : Nat) (0 : Int))) (giveB (↑(ByteArray.size s) : Int))) (Int.toNat (↑x_2 : Int)) (0 : Int))) : Int) = (↑(offK (giveV (List.take x (sideR (bitsS (openS s))) ++ List.drop x
  (List.replicate (8 : Nat) (0 : Int))) (giveB (↑(ByteArray.size s) : Int))) y) : Int) ∧ false = false ∧ getN (bitsS (openS s)) (0 : Nat) (16 : Nat) = getN (bitsS (openS s)) (0 : Nat) (16 : Nat) ∧ sideR (bitsS (openS s)) =
  sideR (bitsS (openS s)) ∧ List.set (rowsR (bitsS (openS s)) (giveV (List.take x (sideR (bitsS (openS s))) ++ List.drop x (List.replicate (8 : Nat) (0 : Int))) (giveB (↑(ByteArray.size s) : Int))) x_2 ++ List.drop x_2
  (List.replicate (8 : Nat) (List.replicate (4 : Nat) (0 : Int)))) (Int.toNat (↑x_2 : Int)) (pulV (openS s) (↑(offK (giveV (List.take x (sideR (bitsS (openS s))) ++ List.drop x (List.replicate (8 : Nat) (0 : Int))) (giveB
  (↑(ByteArray.size s) : Int))) x_2) : Int) (List.getD (giveV (List.take x (sideR (bitsS (openS s))) ++ List.drop x (List.replicate (8 : Nat) (0 : Int))) (giveB (↑(ByteArray.size s) : Int))) (Int.toNat (↑x_2 : Int)) (0 :
  Int))) = rowsR (bitsS (openS s)) (giveV (List.take x (sideR (bitsS (openS s))) ++ List.drop x (List.replicate (8 : Nat) (0 : Int))) (giveB (↑(ByteArray.size s) : Int))) y ++ List.drop y (List.replicate (8 : Nat)
  (List.replicate (4 : Nat) (0 : Int))) ∧ false = false ∧ giveV (List.take x (sideR (bitsS (openS s))) ++ List.drop x (List.replicate (8 : Nat) (0 : Int))) (giveB (↑(ByteArray.size s) : Int)) = giveV (List.take x (sideR
  (bitsS (openS s))) ++ List.drop x (List.replicate (8 : Nat) (0 : Int))) (giveB (↑(ByteArray.size s) : Int)) ∧ false = false) ∧ (y ≤ (8 : Nat) ∧ okTo (bitsS (openS s)) (giveV (List.take x (sideR (bitsS (openS s))) ++
  List.drop x (List.replicate (8 : Nat) (0 : Int))) (giveB (↑(ByteArray.size s) : Int))) y = true) ∧ (8 : Nat) - y < (8 : Nat) - x_2 else (ByteArray.size (openS s) ≤ (1000 : Nat) ∧ (0 : Int) ≤ (↑(offK (giveV (List.take x
  (sideR (bitsS (openS s))) ++ List.drop x (List.replicate (8 : Nat) (0 : Int))) (giveB (↑(ByteArray.size s) : Int))) x_2) : Int) ∧ (↑(offK (giveV (List.take x (sideR (bitsS (openS s))) ++ List.drop x (List.replicate (8 :
  Nat) (0 : Int))) (giveB (↑(ByteArray.size s) : Int))) x_2) : Int) ≤ (8 : Int) * (↑(ByteArray.size (openS s)) : Int)) ∧ bif !List.all (List.drop (Int.toNat (↑(offK (giveV (List.take x (sideR (bitsS (openS s))) ++ List.drop
  x (List.replicate (8 : Nat) (0 : Int))) (giveB (↑(ByteArray.size s) : Int))) x_2) : Int)) (bitsS (openS s))) fun (b : Int) => decide (b ≠ (1 : Int)) then (0 : Int) = Prod.fst (readV s) ∧ List.replicate (8 : Nat) (0 : Int)
  = Prod.fst (Prod.snd (readV s)) ∧ List.replicate (8 : Nat) (List.replicate (4 : Nat) (0 : Int)) = Prod.snd (Prod.snd (readV s)) ∧ (3 : Int) = readE s else getN (bitsS (openS s)) (0 : Nat) (16 : Nat) = Prod.fst (readV s) ∧
  sideR (bitsS (openS s)) = Prod.fst (Prod.snd (readV s)) ∧ rowsR (bitsS (openS s)) (giveV (List.take x (sideR (bitsS (openS s))) ++ List.drop x (List.replicate (8 : Nat) (0 : Int))) (giveB (↑(ByteArray.size s) : Int))) x_2
  ++ List.drop x_2 (List.replicate (8 : Nat) (List.replicate (4 : Nat) (0 : Int))) = Prod.snd (Prod.snd (readV s)) ∧ (0 : Int) = readE s
theorem vc83 (s : ByteArray) : P83 s = vcFun C83 (ann83 s) Go.Proofs.Try.f14 [⟨.str, s⟩] [] (out83 s) := by kernel_rfl

end Go.SL.A

/- Statements of code: plain functions. -/
namespace Go.SL.S
open Go Go.SL
def silTo (S : List Int) : Nat → Bool
  | 0 => true
  | i + 1 => bif silTo S i then decide (S.getD (i / 4) 0 = 0) else false
def nearY (Y : List (List Int)) (l : List Int) : List (List Int) := (List.range 8).map fun b : Nat => vecF 4 (pulsesF (Y.getD b z4)) ((l.getD b 0).tmod (countF 4 (pulsesF (Y.getD b z4))))
end Go.SL.S

/- Statements of code: plain laws. -/
namespace Go.SL.A
open Go Go.SL Go.SL.S

theorem hw21 {f : List Int} {z : Int} (hw : Go.SL.allP (List.flatMap (fun a : AV => a.t.wf a.x) [⟨.arr 32 (.int .i64), f⟩, ⟨.int .u8, z⟩] ++ List.flatMap Blk.wf [])) : f.length = 32 ∧ 0 ≤ z ∧ z ≤ 255 := by
  simp only [List.flatMap_cons, List.flatMap_nil, Ty.wf, List.append_nil, List.cons_append, List.nil_append, Go.SL.allP] at hw
  exact ⟨hw.1, hw.2.2.1, hw.2.2.2⟩
theorem hw29 {f : List Int} {z : Int} {l : List Int} (hw : Go.SL.allP (List.flatMap (fun a : AV => a.t.wf a.x) [⟨.arr 32 (.int .i64), f⟩, ⟨.int .u8, z⟩, ⟨.arr 8 (.int .u32), l⟩] ++ List.flatMap Blk.wf [])) : f.length = 32 ∧ (0 ≤ z ∧ z ≤ 255) ∧ l.length = 8 ∧ ∀ x ∈ l, 0 ≤ x ∧ x ≤ 4294967295 := by
  simp only [List.flatMap_cons, List.flatMap_nil, Ty.wf, List.append_nil, List.cons_append, List.nil_append, Go.SL.allP] at hw
  exact ⟨hw.1, ⟨hw.2.2.1, hw.2.2.2.1⟩, hw.2.2.2.2.1, fun x hx => hw.2.2.2.2.2 x hx⟩

theorem firstS_fits (c : List Int) : ∀ (f s : Nat), (s : Int) ≤ firstS c f s ∧ firstS c f s ≤ ((s + f : Nat) : Int)
  | 0, s => by simp [firstS]
  | f + 1, s => by
    rw [firstS]
    split
    · have := firstS_fits c f (s + 1); omega
    · omega

theorem stepOf_fits (c : List Int) : 0 ≤ stepOf c ∧ stepOf c ≤ 15 := by
  have := firstS_fits c 15 0
  unfold stepOf; omega

theorem steps_at (f : List Int) {i : Nat} (h : i < 8) : (stepsF f).getD i 0 = stepOf (ofF f i) := by
  rw [List.getD_eq_getElem?_getD, stepsF_at f h]; rfl

theorem steps_right (f : List Int) : rightF (stepsF f) = true := by
  unfold rightF stepsF
  simp only [Bool.not_eq_true', List.any_eq_false, List.mem_map]
  rintro _ ⟨x, -, rfl⟩
  have := stepOf_fits (ofF f x)
  unfold badF
  simp only [Bool.or_eq_true, decide_eq_true_eq]; omega

theorem clamp_idem (f : List Int) : clampF (clampF f) = clampF f := by
  unfold clampF
  rw [List.map_map]
  refine List.map_congr_left fun x _ => ?_
  simp only [Function.comp_apply]; omega

theorem ofF_at (f : List Int) {b : Nat} (hb : b < 8) {j : Nat} (hj : j < 4) : (ofF f b).getD j 0 = f.getD (4 * b + j) 0 := by
  unfold ofF
  rw [mayB_iff.2 (by omega), if_pos rfl, show ((b : Int) * 4).toNat = 4 * b by omega]
  simp only [List.getD_eq_getElem?_getD, List.getElem?_take, List.getElem?_drop, if_pos hj]

theorem held_of (f : List Int) (b : Nat) (hb : b < 8) : heldF (ofF (clampF f) b) = true := by
  unfold heldF
  rw [List.all_eq_true]
  intro x hx
  unfold ofF at hx
  rw [mayB_iff.2 (by omega), if_pos rfl] at hx
  have hx := List.mem_of_mem_drop (List.mem_of_mem_take hx)
  unfold clampF at hx
  obtain ⟨y, -, rfl⟩ := List.mem_map.1 hx
  rw [decide_eq_true_eq]; omega

/-- What is known of a shape. -/
structure Shp (f : List Int) (n : Int) : Prop where
  ok : shapeE n = 0
  sw : SW (shapeV f n)
  st : ∀ b : Nat, 0 ≤ (shapeV f n).1.getD b 0 ∧ (shapeV f n).1.getD b 0 ≤ 15
  side : (shapeV f n).1 = stepsF (clampF f)
  row : ∀ b : Nat, b < 8 → ∃ k, (0 ≤ k ∧ k ≤ 12) ∧ Found (ofF (clampF f) b) ((shapeV f n).1.getD b 0) k ((shapeV f n).2.getD b z4)

theorem shp (f : List Int) {n : Int} (hn : 12 ≤ n ∧ n ≤ 24) : Shp f n := by
  have hB : giveB n = 8 * n - 64 := by unfold giveB; rw [if_neg (by omega)]
  have hV : shapeV f n = shapeF f (8 * n - 64) := by unfold shapeV; rw [hB, if_neg (by omega)]
  have hE : shapeE n = 0 := by unfold shapeE; rw [hB, if_neg (by omega)]
  have hr := steps_right (clampF f)
  obtain ⟨-, gV⟩ := giveV_ok (bits := 8 * n - 64) hr (by omega)
  obtain ⟨left, -, g1, -, g2⟩ := give_end (stepsF (clampF f)) (B := 8 * n - 64) (by omega)
  rw [← gV] at g1 g2
  have row : ∀ b : Nat, b < 8 → ∃ k, (0 ≤ k ∧ k ≤ 12) ∧ Found (ofF (clampF f) b) ((shapeF f (8 * n - 64)).1.getD b 0) k ((shapeF f (8 * n - 64)).2.getD b z4) := by
    intro b hb
    refine ⟨_, (g2 b hb).1, ?_⟩
    have e : (shapeF f (8 * n - 64)).2.getD b z4 = findV (ofF (clampF f) b) ((stepsF (clampF f)).getD b 0) ((giveV (stepsF (clampF f)) (8 * n - 64)).getD b 0) := by
      rw [List.getD_eq_getElem?_getD]
      have := shapeY_at (clampF f) (stepsF (clampF f)) (giveV (stepsF (clampF f)) (8 * n - 64)) hb
      unfold shapeF
      rw [this]; rfl
    rw [e]
    exact (findV_ok (held_of f b hb) (right_at hr b) (g2 b hb).1).2
  rw [← hV] at row
  refine ⟨hE, ⟨?_, ?_, fun y hy => ?_⟩, fun b => ?_, by rw [hV]; rfl, row⟩
  · rw [hV]; exact stepsF_len _
  · rw [hV]; exact shapeY_len _ _ _
  · obtain ⟨i, hi, rfl⟩ := List.mem_iff_getElem.1 hy
    have hi8 : i < 8 := by rw [hV] at hi; exact (shapeY_len _ _ _ ▸ hi)
    obtain ⟨k, -, F⟩ := row i hi8
    have := F.len
    rw [List.getD_eq_getElem?_getD, List.getElem?_eq_getElem hi] at this
    exact this
  · rw [hV]; exact right_at hr b

theorem eqbS {s : SHP} : Ty.eqb (.cons (.arr 8 (.int .i64)) (.last (.arr 8 (.arr 4 (.int .i64))))) s s = true := by
  simp [Ty.eqb]

theorem shape_clamp (f : List Int) (n : Int) : shapeV (clampF f) n = shapeV f n := by
  unfold shapeV shapeF
  rw [clamp_idem]

theorem coef_row {y : List Int} {s : Int} (hf : fewF y = true) (hs : 0 ≤ s ∧ s ≤ 15) (j : Nat) : (coefF y s).getD j 0 = y.getD j 0 * gainF s := by
  have hm : mayF14 y s = true := by unfold mayF14; rw [hf, Bool.true_and, decide_eq_true_eq]; exact gain_pos hs
  rw [coefF_may hm, getD_map0]

theorem mul_le12 {x g : Int} (h1 : -12 ≤ x ∧ x ≤ 12) (h2 : 0 ≤ g) : -(12 * g) ≤ x * g ∧ x * g ≤ 12 * g := by
  have a := Int.mul_le_mul_of_nonneg_right h1.2 h2
  have b := Int.mul_le_mul_of_nonneg_right h1.1 h2
  have c : (-12 : Int) * g = -(12 * g) := by rw [Int.neg_mul]
  omega

theorem coefs_loud {f : List Int} {n : Int} (h : Shp f n) {i : Nat} (hi : i < 32) : -(12 * gainF ((shapeV f n).1.getD (i / 4) 0)) ≤ (coefsF (shapeV f n)).getD i 0 ∧ (coefsF (shapeV f n)).getD i 0 ≤ 12 * gainF ((shapeV f n).1.getD (i / 4) 0) := by
  obtain ⟨k, -, F⟩ := h.row (i / 4) (by omega)
  rw [coefs_at h.sw hi]
  have e := coef_row F.few (h.st (i / 4)) (i % 4)
  rw [e]
  exact mul_le12 (fewF_at F.few _) (gain_fits _).1

theorem shl12 {s : Int} (h : 0 ≤ s ∧ s ≤ 15) : iand .i64 s 15 = s ∧ ishl .i64 12 s = 12 * gainF s := by
  have : s = 0 ∨ s = 1 ∨ s = 2 ∨ s = 3 ∨ s = 4 ∨ s = 5 ∨ s = 6 ∨ s = 7 ∨ s = 8 ∨ s = 9 ∨ s = 10 ∨ s = 11 ∨ s = 12 ∨ s = 13 ∨ s = 14 ∨ s = 15 := by omega
  rcases this with rfl | rfl | rfl | rfl | rfl | rfl | rfl | rfl | rfl | rfl | rfl | rfl | rfl | rfl | rfl | rfl <;> decide

theorem silTo_all (S : List Int) : ∀ i, silTo S i = true ↔ ∀ j, j < i → S.getD (j / 4) 0 = 0
  | 0 => by simp [silTo]
  | i + 1 => by
    rw [silTo]
    cases hs : silTo S i with
    | false =>
      simp only [cond_false, Bool.false_eq_true, false_iff]
      intro h
      rw [(silTo_all S i).2 fun j hj => h j (by omega)] at hs
      cases hs
    | true =>
      have ih := (silTo_all S i).1 hs
      simp only [cond_true, decide_eq_true_eq]
      constructor
      · intro h j hj
        by_cases e : j = i
        · subst e; exact h
        · exact ih j (by omega)
      · intro h; exact h i (by omega)

theorem z8_of {S : List Int} (hl : S.length = 8) : S = z8 ↔ ∀ j, j < 32 → S.getD (j / 4) 0 = 0 := by
  constructor
  · rintro rfl j _; exact z8_at _
  · intro h
    refine List.ext_getElem (by rw [hl]; rfl) fun i h1 h2 => ?_
    have a := h (4 * i) (by omega)
    rw [show 4 * i / 4 = i by omega] at a
    have b := z8_at i
    rw [List.getD_eq_getElem?_getD, List.getElem?_eq_getElem h1] at a
    rw [List.getD_eq_getElem?_getD, List.getElem?_eq_getElem h2] at b
    exact (show S[i] = 0 from a).trans (show z8[i] = 0 from b).symm

theorem silent_sil {f : List Int} {n : Int} (h : Shp f n) : silentF (shapeV f n) = silTo (shapeV f n).1 32 := by
  rw [Bool.eq_iff_iff, silTo_all, ← z8_of h.sw.l1]
  unfold silentF
  rw [Bool.and_eq_true, decide_eq_true_eq]
  refine ⟨fun h => h.2, fun hz => ⟨?_, hz⟩⟩
  unfold quietF
  rw [List.all_eq_true]
  intro x hx
  obtain ⟨i, hi, rfl⟩ := List.mem_iff_getElem.1 hx
  have hL := coefs_len h.sw
  have := coefs_loud h (i := i) (by omega)
  rw [hz, z8_at, List.getD_eq_getElem?_getD, List.getElem?_eq_getElem hi] at this
  have g0 : gainF 0 = 1 := by decide
  rw [g0] at this
  simpa using this

/-- A shape's error, one band more. -/
theorem err_band {x : List Int} {u : SHP} (hu : SW u) {b : Nat} (hb : b < 8) (hr : 0 ≤ u.1.getD b 0 ∧ u.1.getD b 0 ≤ 15) (fu : fewF (u.2.getD b z4) = true) :
    errTo x (coefsF u) (4 * (b + 1)) = errTo x (coefsF u) (4 * b) + farF (ofF x b) (u.2.getD b z4) (gainF (u.1.getD b 0)) := by
  have hc := fun (j : Nat) (hj : 4 * b + j < 32) => coefs_at hu hj
  generalize coefsF u = c at *
  have e : ∀ j, j < 4 → absF (x.getD (4 * b + j) 0 - c.getD (4 * b + j) 0) = absF ((ofF x b).getD j 0 - (u.2.getD b z4).getD j 0 * gainF (u.1.getD b 0)) := by
    intro j hj
    have r := coef_row fu hr j
    rw [hc j (by omega), show (4 * b + j) / 4 = b by omega, show (4 * b + j) % 4 = j by omega, r, ofF_at x hb hj]
  have e0 := e 0 (by omega)
  have e1 := e 1 (by omega)
  have e2 := e 2 (by omega)
  have e3 := e 3 (by omega)
  rw [show 4 * (b + 1) = 4 * b + 1 + 1 + 1 + 1 by omega, errTo, errTo, errTo, errTo]
  unfold farF
  rw [Nat.add_zero] at e0
  rw [show 4 * b + 1 + 1 = 4 * b + 2 by omega, show 4 * b + 2 + 1 = 4 * b + 3 by omega, e0, e1, e2, e3]
  generalize errTo x c (4 * b) = E
  omega

/-- The errors of two shapes of the same steps, band by band. -/
theorem err_le {x : List Int} {s t : SHP} (hs : SW s) (ht : SW t) (hst : s.1 = t.1) (hr : ∀ b : Nat, 0 ≤ s.1.getD b 0 ∧ s.1.getD b 0 ≤ 15)
    (fs : ∀ b : Nat, b < 8 → fewF (s.2.getD b z4) = true) (ft : ∀ b : Nat, b < 8 → fewF (t.2.getD b z4) = true)
    (hb : ∀ b : Nat, b < 8 → farF (ofF x b) (s.2.getD b z4) (gainF (s.1.getD b 0)) ≤ farF (ofF x b) (t.2.getD b z4) (gainF (s.1.getD b 0))) (b : Nat) :
    b ≤ 8 → errTo x (coefsF s) (4 * b) ≤ errTo x (coefsF t) (4 * b) := by
  induction b with
  | zero => intro _; rw [Nat.mul_zero, errTo, errTo]; exact Int.le_refl 0
  | succ b ih =>
    intro h
    have ih := ih (by omega)
    rw [err_band hs (by omega) (hr b) (fs b (by omega)), err_band ht (by omega) (by rw [← hst]; exact hr b) (ft b (by omega)), ← hst]
    have := hb b (by omega)
    generalize errTo x (coefsF s) (4 * b) = A at *
    generalize errTo x (coefsF t) (4 * b) = B at *
    omega
end Go.SL.A

/- Packets laid and read. -/
namespace Go.SL.A
open Go Go.SL Go.SL.S
set_option maxRecDepth 100000

theorem hw81 {s : List Int × List (List Int)} {n : Int} (hw : Go.SL.allP (List.flatMap (fun a : AV => a.t.wf a.x) [⟨(.cons (.arr 8 (.int .i64)) (.last (.arr 8 (.arr 4 (.int .i64))))), s⟩, ⟨.int .i64, n⟩] ++ List.flatMap Blk.wf [])) : s.2.length = 8 ∧ ∀ y ∈ s.2, y.length = 4 := by
  simp only [List.flatMap_cons, List.flatMap_nil, Ty.wf, List.append_nil, List.cons_append, List.nil_append, Go.SL.allP] at hw
  exact ⟨hw.2.2.1, fun y hy => (hw.2.2.2.1 y hy).1⟩
theorem pure81 (s : List Int × List (List Int)) (n : Int) (hl : s.2.length = 8 ∧ ∀ y ∈ s.2, y.length = 4) : P81 s n := by
  unfold P81
  by_cases h0 : giveB n = 0
  · have e : packR s n = false := by unfold packR; rw [if_pos (Or.inl h0)]
    rw [decide_eq_true h0, cond_true, e]
    and_intros <;> simp
  · rw [decide_eq_false h0, cond_false]
    cases hr : rightF s.1 with
    | false =>
      have e : packR s n = false := by unfold packR; rw [if_pos (Or.inr hr)]
      rw [Bool.not_false, cond_true, e]
    | true =>
      have e : packR s n = (List.range 8).all fun b => decide (pulsesF (s.2.getD b (List.replicate 4 0)) = (giveV s.1 (giveB n)).getD b 0) := by
        unfold packR; rw [if_neg (by rw [hr]; simp [h0])]
      rw [Bool.not_true, cond_false, e]
      generalize giveV s.1 (giveB n) = k
      simp only [eq_self, true_and, and_true, Int.toNat_natCast]
      refine ⟨0, ⟨rfl, by omega, rfl⟩, fun i hi hw => ?_⟩
      clear hw
      obtain ⟨hi, ho⟩ := hi
      have ho : ((List.range i).all fun b => decide (pulsesF (s.2.getD b (List.replicate 4 0)) = k.getD b 0)) = true := ho
      by_cases h : (i : Int) < 8
      · have hyl := hl.2 _ (getD_mem (d := List.replicate 4 0) (f := s.2) (k := i) (by omega))
        rw [decide_eq_true h, cond_true]
        refine ⟨⟨by omega, by omega⟩, ⟨by decide, hyl.symm, ⟨by omega, by omega⟩, by omega⟩, ?_⟩
        cases hc : decide (pulsesF (s.2.getD i (List.replicate 4 0)) = k.getD i 0) with
        | true =>
          rw [Bool.not_true, cond_false]
          refine ⟨i + 1, step_i (by omega), ⟨by omega, ?_⟩, by omega⟩
          show ((List.range (i + 1)).all _) = true
          rw [List.range_succ, List.all_append, ho]
          simp
          exact of_decide_eq_true hc
        | false =>
          rw [Bool.not_false, cond_true]
          symm
          rw [List.all_eq_false]
          exact ⟨i, List.mem_range.2 (by omega), by rw [hc]; simp⟩
      · have : i = 8 := by omega
        subst this
        rw [decide_eq_false h, cond_false, ho]

theorem rep_zero (m : Nat) : repS { data := { toList := [(0 : UInt8)] } } (m : Int) = bytesOf (List.replicate m 0) := by
  have h : ∀ m : Nat, Lib.repeatL [(0 : UInt8)] m = List.replicate m 0 := by
    intro m
    induction m with
    | zero => rfl
    | succ m ih => rw [Lib.repeatL, ih]; rfl
  unfold repS bytesOf
  rw [Int.toNat_natCast, h, List.map_replicate]; rfl
theorem layV_bad {f n : Int} {s : SHQ} (h : layE f s n ≠ 0) : { data := { toList := [] } } = layV f s n := by
  unfold layV; rw [if_neg h]; rfl
theorem layV_good {f n : Int} {s : SHQ} (h : layE f s n = 0) : layV f s n = bytesOf (layS f s n) := by
  unfold layV; rw [if_pos h]
theorem hw82 {p : Int × List Int × List (List Int)} {n : Int} (hw : Go.SL.allP (List.flatMap (fun a : AV => a.t.wf a.x) [⟨(.cons (.int .i64) (.last (.cons (.arr 8 (.int .i64)) (.last (.arr 8 (.arr 4 (.int .i64))))))), p⟩, ⟨.int .i64, n⟩] ++ List.flatMap Blk.wf [])) : p.2.1.length = 8 ∧ p.2.2.length = 8 ∧ ∀ y ∈ p.2.2, y.length = 4 := by
  simp only [List.flatMap_cons, List.flatMap_nil, Ty.wf, List.append_nil, List.cons_append, List.nil_append, Go.SL.allP] at hw
  obtain ⟨-, -, h1, -, h2, h3, -⟩ := hw
  exact ⟨h1, h2, fun y hy => (h3 y hy).1⟩
theorem head_len (f : Int) {S : List Int} (l1 : S.length = 8) {x : Nat} (hx : x ≤ 8) : (bitsN f 16 ++ sideB (S.take x)).length = 16 + 4 * x := by
  rw [List.length_append, bitsN_len, sideB_len, List.length_take]; omega
theorem head_bit (f : Int) (S : List Int) : Bit (bitsN f 16 ++ sideB S) := bit_app (bitsN_bit _ _) (flat_bit (fun _ => bitsN_bit _ _) _)
theorem rows_bit (f : Int) (S : List Int) (Y : List (List Int)) : Bit (bitsN f 16 ++ sideB S ++ rowsB Y) := bit_app (head_bit f S) (flat_bit (fun _ => bitsN_bit _ _) _)
theorem pure82 (p : Int × List Int × List (List Int)) (n : Int) (hl : p.2.1.length = 8 ∧ p.2.2.length = 8 ∧ ∀ y ∈ p.2.2, y.length = 4) : P82 p n := by
  obtain ⟨f, S, Y⟩ := p
  obtain ⟨l1, l8, l4⟩ := hl
  unfold P82
  simp only at l1 l8 l4
  simp only [eq_self, true_and, and_true]
  by_cases h0 : giveB n = 0
  · have e : layE f (S, Y) n = 1 := by unfold layE; rw [if_pos h0]
    rw [decide_eq_true h0, cond_true, e]
    exact ⟨layV_bad (by rw [e]; decide), rfl⟩
  have hn := giveB_ne.1 h0
  rw [decide_eq_false h0, cond_false]
  rintro b hb
  by_cases hf : f < 0 ∨ 65535 < f
  · have e : layE f (S, Y) n = 7 := by unfold layE; rw [if_neg h0, if_pos hf]
    have hc : (bif b then true else decide (65535 < f)) = true := by
      rw [← hb]
      by_cases h1 : f < 0
      · rw [decide_eq_true h1]; rfl
      · rw [decide_eq_false h1, cond_false]; exact decide_eq_true (by omega)
    rw [hc, cond_true, e]
    exact ⟨by cases b <;> simp, layV_bad (by rw [e]; decide), rfl⟩
  have hb : false = b := by rw [← hb]; exact (decide_eq_false (by omega)).symm
  subst hb
  rw [cond_false, decide_eq_false (show ¬ 65535 < f by omega), cond_false]
  refine ⟨by simp, ?_⟩
  cases hp : packR (S, Y) n with
  | false =>
    have e : layE f (S, Y) n = 3 := by unfold layE; rw [if_neg h0, if_neg hf, hp]; rfl
    rw [Bool.not_false, cond_true, e]
    exact ⟨layV_bad (by rw [e]; decide), rfl⟩
  | true =>
    have e : layE f (S, Y) n = 0 := by unfold layE; rw [if_neg h0, if_neg hf, hp]; rfl
    have R := packR_iff.1 hp
    obtain ⟨k8, kf, ko⟩ := give_fit R.rt hn
    have hlen := layB_len (f := f) R l1 l8
    have hrow := R.row
    have hr := R.rt
    simp only at k8 kf ko hlen hrow hr
    generalize giveV S (giveB n) = k at *
    have mono := fun b (hb : b ≤ 8) => offK_mono k hb
    rw [Bool.not_true, cond_false]
    have e16 : (2 : Int) ^ 16 = 65536 := by decide
    have e16' : (2 : Int) ^ (Int.toNat 16) = 65536 := by decide
    refine ⟨⟨by decide, by omega, by omega⟩, 0, ⟨⟨rfl, ?_, by omega, ?_⟩, by omega⟩, fun x hx _ => ?_⟩
    · rw [List.take_zero]; unfold sideB; simp
    · rw [List.take_zero]; unfold sideB; simp
    by_cases h8 : (x : Int) < 8
    · rw [decide_eq_true h8, cond_true]
      have hh := head_len f l1 (x := x) (by omega)
      have hB := head_bit f (S.take x)
      have hs := right_at hr x
      have e4 : (2 : Int) ^ 4 = 16 := by decide
      have e4' : (2 : Int) ^ (Int.toNat 4) = 16 := by decide
      have hap : bitsN f 16 ++ sideB (S.take x) ++ bitsN (S.getD x 0) 4 = bitsN f 16 ++ sideB (S.take (x + 1)) := by rw [sideB_take S (by omega), List.append_assoc]
      rw [Int.toNat_natCast, wL_pack hB (by omega), hap]
      exact ⟨⟨by omega, by omega⟩, ⟨⟨wrOk_pack hB (by omega) (by omega), by omega⟩, by decide, by omega, by omega⟩, x + 1, ⟨step_i (by omega), rfl, by omega, rfl⟩, by omega, by omega⟩
    · have : x = 8 := by omega
      subst this
      have t8 : S.take 8 = S := List.take_of_length_le (by omega)
      rw [decide_eq_false h8, cond_false, t8]
      have hh := head_len f l1 (x := 8) (by omega)
      rw [t8] at hh
      refine ⟨0, ⟨⟨rfl, ?_, ?_, ?_⟩, by omega⟩, fun x hx _ => ?_⟩
      · rw [List.take_zero]; unfold rowsB; simp
      · rw [List.take_zero]; unfold rowsB; rw [List.flatMap_nil, List.append_nil, hh]; rfl
      · rw [List.take_zero]; unfold rowsB; simp
      have hLx := hlen x hx
      have hBx := rows_bit f S (Y.take x)
      have hmx := mono x hx
      by_cases h8 : (x : Int) < 8
      · rw [decide_eq_true h8, cond_true, Int.toNat_natCast]
        have hy4 := l4 _ (getD_mem (f := Y) (k := x) (d := List.replicate 4 0) (by omega))
        have hk := kf x (by omega)
        have hpx := hrow x (by omega)
        obtain ⟨i1, i2, i3, i4, i5⟩ := index_row hy4 hk hpx
        have hL1 := hlen (x + 1) (by omega)
        have hrb : rowB (Y.getD x (List.replicate 4 0)) = bitsN (indexF (Y.getD x (List.replicate 4 0))).1 (bitsK (k.getD x 0)) := by unfold rowB; rw [hpx]
        have hle := bitsK_le hk
        have hmx1 := mono (x + 1) (by omega)
        have hap : bitsN f 16 ++ sideB S ++ rowsB (Y.take x) ++ rowB (Y.getD x (List.replicate 4 0)) = bitsN f 16 ++ sideB S ++ rowsB (Y.take (x + 1)) := by rw [rowsB_take Y (by omega)]; simp only [List.append_assoc]
        rw [hpx, cost_bits, Int.toNat_natCast, wL_pack hBx rfl, ← hrb, hap]
        rw [offK] at hmx1
        refine ⟨⟨by omega, by omega⟩, ⟨by decide, hy4.symm⟩, ⟨by decide, hy4.symm, ⟨wrOk_pack hBx rfl (by omega), by omega⟩, ⟨by omega, by omega⟩, i1, i3⟩, x + 1, ⟨step_i (by omega), rfl, ?_, rfl⟩, by omega, by omega⟩
        have := hlen (x + 1) (by omega)
        rw [offK] at this
        omega
      · have : x = 8 := by omega
        subst this
        have t8 : Y.take 8 = Y := List.take_of_length_le (by omega)
        rw [decide_eq_false h8, cond_false, t8]
        rw [t8] at hLx hBx
        have hlb : layB f (S, Y) = bitsN f 16 ++ sideB S ++ rowsB Y := rfl
        rw [← hlb] at hLx hBx ⊢
        have hpl := packB_len (layB f (S, Y))
        have hbs := bytes_size (packB (layB f (S, Y)))
        have hw1 : IntKind.i64.wrap (n - 2) = n - 2 := w64 (by omega) (by omega)
        have hw2 : IntKind.i64.wrap (n - 2 - ((packB (layB f (S, Y))).length : Int)) = (((n - 2).toNat - (packB (layB f (S, Y))).length : Nat) : Int) := by rw [w64 (by omega) (by omega)]; omega
        rw [hbs, hw1, hw2, rep_zero]
        have happ : bytesOf (packB (layB f (S, Y))) ++ bytesOf (List.replicate ((n - 2).toNat - (packB (layB f (S, Y))).length) 0) = bytesOf (bodyS f (S, Y) n) := bytes_app _ _
        have hbl := body_len (f := f) (s := (S, Y)) hn.1 (by omega)
        have hbb : Byt (bodyS f (S, Y) n) := by
          rw [body_eq hn.1 (by omega)]; exact packB_byt (bit_app hBx (bit_zero _))
        rw [happ, bytes_size, bytes_size, List.length_replicate, hbl, ofBytes_bytes hbb, layV_good e, e]
        exact ⟨⟨⟨by omega, by omega⟩, by decide, by omega, by omega⟩, rfl, rfl⟩

theorem getV_ok {o : ByteArray} {a n : Int} (h : a + n ≤ 8 * (ByteArray.size o : Int)) : getV o a n = getN (bitsS o) a.toNat n.toNat ∧ getA o a n = a + n := by
  have hn : ¬ 8 * (ByteArray.size o : Int) - a < n := by omega
  unfold getV getA
  rw [if_neg hn, if_neg hn]; exact ⟨rfl, rfl⟩
theorem okTo_false {U k : List Int} {x : Nat} (hx : x < 8) (h : ¬ rowI U k x < countF 4 (k.getD x 0)) : okTo U k 8 = false :=
  List.all_eq_false.2 ⟨x, List.mem_range.2 hx, by rw [decide_eq_false h]; simp⟩
theorem okTo_succ {U k : List Int} {x : Nat} (h : okTo U k x = true) (h2 : rowI U k x < countF 4 (k.getD x 0)) : okTo U k (x + 1) = true := by
  unfold okTo at *
  rw [List.range_succ, List.all_append, h, List.all_cons, List.all_nil, decide_eq_true h2]; rfl
theorem rowsR_step {U k : List Int} {x : Nat} (hx : x < 8) (v : List Int) (hv : v = vecF 4 (k.getD x 0) (rowI U k x)) : List.set (rowsR U k x ++ List.drop x (List.replicate 8 (List.replicate 4 0))) x v = rowsR U k (x + 1) ++ List.drop (x + 1) (List.replicate 8 (List.replicate 4 0)) := by
  have e : rowsR U k (x + 1) = rowsR U k x ++ [v] := by
    unfold rowsR
    rw [List.range_succ, List.map_append, hv]; rfl
  have hl := rowsR_len U k x
  rw [e, List.set_append_right _ _ (by omega), hl, Nat.sub_self, List.append_assoc]
  congr 1
  rw [List.drop_eq_getElem_cons (by rw [List.length_replicate]; exact hx)]
  rfl
theorem pure83 (s : ByteArray) : P83 s := by
  unfold P83
  simp only [eq_self, true_and, and_true]
  have hlen := ofBytes_len s
  by_cases h0 : giveB (ByteArray.size s : Int) = 0
  · have e : readS (ofBytes s) = (zeroP, 1) := by unfold readS; rw [hlen, if_pos h0]
    unfold readV readE
    rw [decide_eq_true h0, cond_true, e]
    exact ⟨rfl, rfl, rfl, rfl⟩
  have hn := giveB_ne.1 h0
  rw [decide_eq_false h0, cond_false]
  refine ⟨⟨by omega, by omega⟩, ?_⟩
  by_cases hS : ¬ sealS ((ofBytes s).take (ByteArray.size s - 2)) = ofBytes s
  · have e : readS (ofBytes s) = (zeroP, 4) := by unfold readS; rw [hlen, if_neg h0, if_neg hS]
    have e2 : openE s = 4 := by unfold openE; rw [if_neg hS]
    unfold readV readE
    rw [e, e2]
    exact ⟨rfl, rfl, rfl, rfl⟩
  have hS := Decidable.not_not.1 hS
  have e2 : openE s = 0 := by unfold openE; rw [if_pos hS]
  have hB : Byt ((ofBytes s).take (ByteArray.size s - 2)) := fun x hx => ofBytes_byt s x (List.mem_of_mem_take hx)
  have eo : openS s = bytesOf ((ofBytes s).take (ByteArray.size s - 2)) := by unfold openS; rw [if_pos hS]
  have e : readS (ofBytes s) = readU (bitsS (openS s)) (ByteArray.size s : Int) := by
    unfold readS
    rw [hlen, if_neg h0, if_pos hS, eo]
    unfold bitsS
    rw [ofBytes_bytes hB]
  have hos : (ByteArray.size (openS s) : Int) = (ByteArray.size s : Int) - 2 := by rw [eo, bytes_size, List.length_take]; omega
  have hUl := bitsS_len (openS s)
  have hUb := bitsS_bit (openS s)
  unfold readV readE
  rw [e, e2, decide_eq_true rfl, Bool.not_true, cond_false]
  have R := rdU hUb hn (by omega)
  have hR := R.rt
  have hkf := R.kf
  have hoff := R.off
  have g0 := getV_ok (o := openS s) (a := 0) (n := 16) (by omega)
  rw [g0.1, g0.2]
  have gs := fun x (hx : x < 8) => getV_ok (o := openS s) (a := 16 + 4 * (x : Int)) (n := 4) (by omega)
  have hgb := giveB_ne.2 hn
  -- what is read of the bits
  have hbad : ∀ x, x < 8 → ¬ rowI (bitsS (openS s)) (giveV (sideR (bitsS (openS s))) (giveB (ByteArray.size s : Int))) x < countF 4 ((giveV (sideR (bitsS (openS s))) (giveB (ByteArray.size s : Int))).getD x 0) → readU (bitsS (openS s)) (ByteArray.size s : Int) = (zeroP, 3) := fun x hx h => by
    unfold readU; dsimp only; rw [okTo_false hx h]; rfl
  have hend : okTo (bitsS (openS s)) (giveV (sideR (bitsS (openS s))) (giveB (ByteArray.size s : Int))) 8 = true → readU (bitsS (openS s)) (ByteArray.size s : Int) = if ((bitsS (openS s)).drop (offK (giveV (sideR (bitsS (openS s))) (giveB (ByteArray.size s : Int))) 8)).all (fun b => decide (b ≠ 1)) = true then ((getN (bitsS (openS s)) 0 16, sideR (bitsS (openS s)), rowsR (bitsS (openS s)) (giveV (sideR (bitsS (openS s))) (giveB (ByteArray.size s : Int))) 8), 0) else (zeroP, 3) := fun h => by
    unfold readU; dsimp only; rw [h, Bool.true_and]
  have hpul : ∀ x, x < 8 → pulV (openS s) ((offK (giveV (sideR (bitsS (openS s))) (giveB (ByteArray.size s : Int))) x : Nat) : Int) ((giveV (sideR (bitsS (openS s))) (giveB (ByteArray.size s : Int))).getD x 0) = (if rowI (bitsS (openS s)) (giveV (sideR (bitsS (openS s))) (giveB (ByteArray.size s : Int))) x < countF 4 ((giveV (sideR (bitsS (openS s))) (giveB (ByteArray.size s : Int))).getD x 0) then vecF 4 ((giveV (sideR (bitsS (openS s))) (giveB (ByteArray.size s : Int))).getD x 0) (rowI (bitsS (openS s)) (giveV (sideR (bitsS (openS s))) (giveB (ByteArray.size s : Int))) x) else List.replicate 4 0) ∧ pulE (openS s) ((offK (giveV (sideR (bitsS (openS s))) (giveB (ByteArray.size s : Int))) x : Nat) : Int) ((giveV (sideR (bitsS (openS s))) (giveB (ByteArray.size s : Int))).getD x 0) = (if rowI (bitsS (openS s)) (giveV (sideR (bitsS (openS s))) (giveB (ByteArray.size s : Int))) x < countF 4 ((giveV (sideR (bitsS (openS s))) (giveB (ByteArray.size s : Int))).getD x 0) then 0 else 3) := fun x _ => by
    unfold pulV pulE rowI; rw [Int.toNat_natCast]; exact ⟨rfl, rfl⟩
  have hside := fun x (hx : x < 8) => sideR_at (bitsS (openS s)) hx
  have hsl := sideR_len (bitsS (openS s))
  generalize hkk : giveV (sideR (bitsS (openS s))) (giveB (ByteArray.size s : Int)) = k at *
  refine ⟨⟨by omega, ⟨by decide, by omega⟩, by decide, by decide⟩, 0, ⟨⟨rfl, by omega, rfl, by simp⟩, by omega⟩, fun x hx _ => ?_⟩
  by_cases h8 : (x : Int) < 8
  · rw [decide_eq_true h8, cond_true, (gs x (by omega)).1, (gs x (by omega)).2, Int.toNat_natCast]
    refine ⟨⟨by omega, ⟨by omega, by omega⟩, by decide, ⟨by omega, by omega⟩, by omega⟩, x + 1, ⟨step_i (by omega), by omega, set_step (by omega) (by rw [List.length_replicate]; omega) ?_⟩, by omega, by omega⟩
    have h1 := hside x (by omega)
    rw [List.getD_eq_getElem?_getD, List.getElem?_eq_getElem (by omega)] at h1
    rw [List.getElem?_eq_getElem (by omega)]
    refine congrArg some ?_
    refine Eq.trans h1 ?_
    rw [show (16 + 4 * (x : Int)).toNat = 16 + 4 * x by omega]; rfl
  · have : x = 8 := by omega
    subst this
    have t8 : List.take 8 (sideR (bitsS (openS s))) ++ List.drop 8 (List.replicate 8 0) = sideR (bitsS (openS s)) := by
      rw [List.take_of_length_le (by omega), List.drop_eq_nil_of_le (by rw [List.length_replicate]; omega), List.append_nil]
    rw [decide_eq_false h8, cond_false, t8, hkk]
    refine ⟨0, ⟨⟨rfl, rfl, rfl, rfl⟩, by omega, rfl⟩, fun x hx _ => ?_⟩
    obtain ⟨hx, hok⟩ := hx
    have hox := hoff x hx
    by_cases h8 : (x : Int) < 8
    · have hox1 := hoff (x + 1) (by omega)
      rw [offK] at hox1
      obtain ⟨p1, p2⟩ := hpul x (by omega)
      rw [decide_eq_true h8, cond_true, Int.toNat_natCast, p1, p2]
      refine ⟨⟨⟨by omega, by omega⟩, by omega, by omega, hkf x (by omega), ⟨by omega, by omega⟩, ⟨by omega, by omega⟩, by omega⟩, ?_⟩
      by_cases hlt : rowI (bitsS (openS s)) k x < countF 4 (k.getD x 0)
      · rw [if_pos hlt, if_pos hlt, decide_eq_true rfl, Bool.not_true, cond_false]
        refine ⟨x + 1, ⟨step_i (by omega), by rw [offK]; omega, rowsR_step (by omega) _ rfl⟩, ⟨by omega, okTo_succ hok hlt⟩, by omega⟩
      · rw [if_neg hlt, if_neg hlt, hbad x (by omega) hlt, decide_eq_false (by decide), Bool.not_false, cond_true]
        exact ⟨rfl, rfl, rfl, rfl⟩
    · have : x = 8 := by omega
      subst this
      rw [decide_eq_false h8, cond_false, Int.toNat_natCast, hend hok, (List.drop_eq_nil_of_le (by rw [List.length_replicate]; omega) : List.drop 8 (List.replicate 8 (List.replicate 4 (0 : Int))) = []), List.append_nil]
      refine ⟨⟨by omega, by omega, by omega⟩, ?_⟩
      cases hz : ((bitsS (openS s)).drop (offK k 8)).all (fun b => decide (b ≠ 1)) with
      | true =>
        rw [Bool.not_true, cond_false, if_pos rfl]
        exact ⟨rfl, rfl, rfl, rfl⟩
      | false =>
        rw [Bool.not_false, cond_true, if_neg (by simp)]
        exact ⟨rfl, rfl, rfl, rfl⟩
theorem hw30 {f : List Int} {z t : Int} (hw : Go.SL.allP (List.flatMap (fun a : AV => a.t.wf a.x) [⟨.arr 32 (.int .i64), f⟩, ⟨.int .u8, z⟩, ⟨.int .u8, t⟩] ++ List.flatMap Blk.wf [])) : f.length = 32 ∧ (0 ≤ z ∧ z ≤ 255) ∧ 0 ≤ t ∧ t ≤ 255 := by
  simp only [List.flatMap_cons, List.flatMap_nil, Ty.wf, List.append_nil, List.cons_append, List.nil_append, Go.SL.allP] at hw
  obtain ⟨h1, -, h2, h3, h4, h5⟩ := hw
  exact ⟨h1, ⟨h2, h3⟩, h4, h5⟩
theorem shape_rtp (f : List Int) {n : Int} (hn : 12 ≤ n ∧ n ≤ 24) : RtP (shapeV f n) n := by
  have hB : giveB n = 8 * n - 64 := giveB_eq hn
  have hV : shapeV f n = shapeF f (8 * n - 64) := by unfold shapeV; rw [hB, if_neg (by omega)]
  have hr := steps_right (clampF f)
  obtain ⟨-, gV⟩ := giveV_ok (bits := 8 * n - 64) hr (by omega)
  obtain ⟨left, -, g1, -, g2⟩ := give_end (stepsF (clampF f)) (B := 8 * n - 64) (by omega)
  rw [← gV] at g1 g2
  refine ⟨hn, by rw [hV]; exact hr, fun b hb => ?_⟩
  rw [hV, hB]
  show pulsesF ((shapeF f (8 * n - 64)).2.getD b (List.replicate 4 0)) = (giveV (stepsF (clampF f)) (8 * n - 64)).getD b 0
  have e : (shapeF f (8 * n - 64)).2.getD b (List.replicate 4 0) = findV (ofF (clampF f) b) ((stepsF (clampF f)).getD b 0) ((giveV (stepsF (clampF f)) (8 * n - 64)).getD b 0) := by
    rw [List.getD_eq_getElem?_getD]
    have := shapeY_at (clampF f) (stepsF (clampF f)) (giveV (stepsF (clampF f)) (8 * n - 64)) hb
    unfold shapeF
    rw [this]; rfl
  rw [e]
  exact Found.pulses (findV_ok (held_of f b hb) (right_at hr b) (g2 b hb).1).2 (g2 b hb).1.2
theorem read_layV {f n : Int} {s : SHQ} (h : RtP s n) (l1 : s.1.length = 8) (l8 : s.2.length = 8) (l4 : ∀ y ∈ s.2, y.length = 4) (hf : 0 ≤ f ∧ f ≤ 65535) : layE f s n = 0 ∧ ByteArray.size (layV f s n) = n.toNat ∧ readV (layV f s n) = (f, s) ∧ readE (layV f s n) = 0 ∧ Byt (layS f s n) := by
  have e : layE f s n = 0 := by unfold layE; rw [if_neg (giveB_ne.2 h.sz), if_neg (by omega), packR_iff.2 h]; rfl
  obtain ⟨r1, r2⟩ := read_lay (f := f) h l1 l8 l4 hf
  obtain ⟨-, -, hk3⟩ := give_fit h.rt h.sz
  have hb : Byt (layS f s n) := by
    unfold layS
    refine seal_byt ?_
    rw [body_eq h.sz.1 (by rw [layB_all h l1 l8]; exact hk3)]
    exact packB_byt (bit_app (layB_bit f s) (bit_zero _))
  rw [layV_good e, bytes_size, r1]
  unfold readV readE
  rw [ofBytes_bytes hb, r2]
  exact ⟨e, rfl, rfl, rfl, hb⟩
end Go.SL.A

/- Functions do what they are held to do. -/
namespace Go.SL.A
open Go Go.SL Go.SL.S
theorem snd81 : Sound Go.Proofs.Try.prog G81 := snd122.add ⟨_, Go.Proofs.Try.func11, by kernel_rfl, by kernel_rfl⟩ (by
  intro args ins out h hp
  unfold sp81 at h
  split at h
  · rename_i s n
    cases h
    exact vcFun_ok (C := C81) good snd122 Meth.none mix Go.Proofs.Try.func11 (ann81 s n) (fun hw => by rw [← vc81 s n]; exact pure81 s n (hw81 hw))
  · cases h)

theorem snd82 : Sound Go.Proofs.Try.prog G82 := snd81.add ⟨_, Go.Proofs.Try.func10, by kernel_rfl, by kernel_rfl⟩ (by
  intro args ins out h hp
  unfold sp82 at h
  split at h
  · rename_i p n
    cases h
    exact vcFun_ok (C := C82) good snd81 Meth.none mix Go.Proofs.Try.func10 (ann82 p n) (fun hw => by rw [← vc82 p n]; exact pure82 p n (hw82 hw))
  · cases h)

theorem snd83 : Sound Go.Proofs.Try.prog G83 := snd82.add ⟨_, Go.Proofs.Try.func14, by kernel_rfl, by kernel_rfl⟩ (by
  intro args ins out h hp
  unfold sp83 at h
  split at h
  · rename_i s
    cases h
    exact vcFun_ok (C := C83) good snd82 Meth.none mix Go.Proofs.Try.func14 (ann83 s) (fun hw => by rw [← vc83 s]; exact pure83 s)
  · cases h)

end Go.SL.A

/- Vectors' numbers by places: plain functions. -/
namespace Go.SL.S
open Go Go.SL
def rankI (x : Int) : Int := if 0 < x then 2 * x - 1 else -2 * x
def absI (x : Int) : Int := if x < 0 then -x else x
/-- How many vectors come ahead of a first number, of t numbers tried. -/
def aheadS (n K : Nat) (v : Int) : Nat → Int
  | 0 => 0
  | t + 1 => aheadS n K v t + if rankI (-(K : Int) + (t : Int)) < rankI v then cnt n (K - (absI (-(K : Int) + (t : Int))).toNat) else 0
end Go.SL.S

/- Vectors' numbers by places are those by order. -/
namespace Go.SL.A
open Go Go.SL Go.SL.S
def runS (g : Int → Int) (lo : Int) : Nat → Int
  | 0 => 0
  | t + 1 => runS g lo t + g (lo + (t : Int))
def sumL (g : Int → Int) : List Int → Int
  | [] => 0
  | z :: l => g z + sumL g l
theorem sumL_app (g : Int → Int) : ∀ l m, sumL g (l ++ m) = sumL g l + sumL g m
  | [], m => by simp [sumL]
  | z :: l, m => by simp [sumL, sumL_app g l m]; omega
theorem sumBy_L (n K : Nat) : ∀ l, sumBy n K l = sumL (fun z => cnt n (K - (sz13 z).toNat)) l
  | [] => rfl
  | z :: l => by rw [sumBy, sumL, sumBy_L n K l]
theorem runS_cons (g : Int → Int) (lo : Int) : ∀ t, runS g lo (t + 1) = g lo + runS g (lo + 1) t
  | 0 => by simp [runS]
  | t + 1 => by
    rw [runS, runS_cons g lo t, runS]
    have : lo + ((t + 1 : Nat) : Int) = lo + 1 + (t : Int) := by omega
    rw [this]; omega
theorem runS_congr {g h : Int → Int} {lo : Int} : ∀ t : Nat, (∀ j : Nat, j < t → g (lo + (j : Int)) = h (lo + (j : Int))) → runS g lo t = runS h lo t
  | 0, _ => rfl
  | t + 1, H => by rw [runS, runS, runS_congr t fun j hj => H j (by omega), H t (by omega)]
theorem run_nums (g : Int → Int) (j : Nat) : ∀ K : Nat, runS (fun x => if rankI x < (j : Int) then g x else 0) (-(K : Int)) (2 * K + 1) = sumL g ((numsF K).take j)
  | 0 => by
    simp only [runS, numsF]
    cases j with
    | zero => simp [rankI, sumL]
    | succ j => simp [rankI, sumL]
  | K + 1 => by
    have ih := run_nums g j K
    rw [show 2 * (K + 1) + 1 = (2 * K + 1 + 1) + 1 by omega, runS, runS_cons]
    rw [show -((K + 1 : Nat) : Int) + 1 = -(K : Int) by omega, ih]
    rw [show -((K + 1 : Nat) : Int) + ((2 * K + 1 + 1 : Nat) : Int) = ((K + 1 : Nat) : Int) by omega]
    rw [numsF, List.take_append, sumL_app, numsF_len]
    have r1 : rankI ((K + 1 : Nat) : Int) = ((2 * K + 1 : Nat) : Int) := by unfold rankI; rw [if_pos (by omega)]; omega
    have r2 : rankI (-((K + 1 : Nat) : Int)) = ((2 * K + 2 : Nat) : Int) := by unfold rankI; rw [if_neg (by omega)]; omega
    simp only [r1, r2]
    by_cases h1 : 2 * K + 1 < j
    · by_cases h2 : 2 * K + 2 < j
      · rw [if_pos (by omega), if_pos (by omega), List.take_of_length_le (l := [_, _]) (by simp; omega)]
        simp only [sumL]; omega
      · rw [if_neg (by omega), if_pos (by omega), show j - (2 * K + 1) = 1 by omega]
        simp only [List.take_succ_cons, List.take_zero, sumL]; omega
    · rw [if_neg (by omega), if_neg (by omega), show j - (2 * K + 1) = 0 by omega]
      simp only [List.take_zero, sumL]; omega
theorem ahead_run (n K : Nat) (v : Int) : ∀ t, aheadS n K v t = runS (fun x => if rankI x < rankI v then cnt n (K - (absI x).toNat) else 0) (-(K : Int)) t
  | 0 => rfl
  | t + 1 => by rw [aheadS, runS, ahead_run n K v t]
/-- All that come ahead of a first number. -/
theorem ahead_all (n : Nat) {K : Nat} {v : Int} (hK : K ≤ 12) (hv : v ∈ numsF K) : aheadS n K v (2 * K + 1) = sumBy n K ((numsF K).take (idxF (numsF K) v).toNat) := by
  obtain ⟨p, p1, p2, p3⟩ := idx_mem 0 hv
  rw [numsF_len] at p1
  have e1 : idxF (numsF K) v = (p : Int) := by rw [← p3]; exact idx_nums p1
  have e2 : rankI v = (p : Int) := by
    have := rk_get p1
    rw [p3] at this
    unfold rk at this
    unfold rankI
    split
    · rename_i h; rw [if_pos h] at this; omega
    · rename_i h; rw [if_neg h] at this; omega
  rw [ahead_run, e1, Int.toNat_natCast, sumBy_L, ← run_nums, e2]
  refine runS_congr _ fun j hj => ?_
  have : sz13 (-(K : Int) + (j : Int)) = absI (-(K : Int) + (j : Int)) := by
    unfold sz13 absI
    rw [if_neg (by omega)]
    split <;> omega
  rw [this]
theorem num_step {x : Int} {ys : List Int} (h : sumSz (x :: ys) ≤ 12) : numF (x :: ys) = aheadS ys.length (sumSz (x :: ys)).toNat x (2 * (sumSz (x :: ys)).toNat + 1) + numF ys := by
  have h1 := sumSz_le ys
  have h2 := sz13_le x
  have e : sumSz (x :: ys) = sz13 x + sumSz ys := rfl
  have h3 := sz13_le12 (x := x) (by omega)
  rw [ahead_all _ (by omega) (mem_numsF.2 (by omega))]
  rfl
end Go.SL.A

/- Packets: what a changed byte does; unlike packets; what stands at the beginning. -/
namespace Go.SL.A
open Go Go.SL Go.SL.S
set_option maxRecDepth 100000

theorem set_getD' {L : List Int} {p : Nat} {v : Int} (h : p < L.length) (q : Nat) : (L.set p v).getD q 0 = if q = p then v else L.getD q 0 := by
  rw [List.getD_eq_getElem?_getD, List.getElem?_set]
  by_cases e : p = q
  · subst e; rw [if_pos rfl, if_pos h, if_pos rfl]; rfl
  · rw [if_neg e, if_neg (fun h => e h.symm), ← List.getD_eq_getElem?_getD]
theorem seal_at (B : List Int) : (sealS B).getD B.length 0 = crcS 65535 B / 256 ∧ (sealS B).getD (B.length + 1) 0 = crcS 65535 B % 256 := by
  unfold sealS
  constructor
  · rw [List.getD_eq_getElem?_getD, List.getElem?_append_right (by omega), Nat.sub_self]; rfl
  · rw [List.getD_eq_getElem?_getD, List.getElem?_append_right (by omega), show B.length + 1 - B.length = 1 by omega]; rfl
/-- A byte that is another one is told. -/
theorem seal_told {B : List Int} (hB : Byt B) {i : Nat} {v : Int} (hi : i < (sealS B).length) (hv : 0 ≤ v ∧ v ≤ 255) (h : sealS ((List.set (sealS B) i v).take ((List.set (sealS B) i v).length - 2)) = List.set (sealS B) i v) : v = (sealS B).getD i 0 := by
  have hl := seal_len B
  rw [List.length_set, hl, show B.length + 2 - 2 = B.length by omega] at h
  by_cases c : i < B.length
  · have e : (List.set (sealS B) i v).take B.length = List.set B i v := by
      unfold sealS
      rw [List.set_append_left _ _ c, List.take_left' (by rw [List.length_set])]
    rw [e] at h
    have h1 := seal_at (List.set B i v)
    rw [h, List.length_set, set_getD' (by omega), set_getD' (by omega), if_neg (by omega), if_neg (by omega), (seal_at B).1, (seal_at B).2] at h1
    have := crcS_set c hB hv (by omega)
    rw [this]
    unfold sealS
    rw [List.getD_eq_getElem?_getD (l := _ ++ _), List.getElem?_append_left c, ← List.getD_eq_getElem?_getD]
  · have e : (List.set (sealS B) i v).take B.length = B := by
      rw [List.take_set_of_le (by omega)]
      unfold sealS; exact List.take_left
    rw [e] at h
    have := congrArg (fun l => l.getD i 0) h
    rw [set_getD' hi, if_pos rfl] at this
    exact this.symm
theorem lay_told {xs : List Int} (hx : Byt xs) (hl : giveB xs.length ≠ 0) (hs : sealS (xs.take (xs.length - 2)) = xs) {i : Nat} {v : Int} (hi : i < xs.length) (hv : 0 ≤ v ∧ v ≤ 255) (hne : v ≠ xs.getD i 0) : readS (List.set xs i v) = (zeroP, 4) := by
  unfold readS
  rw [List.length_set, if_neg hl, if_neg]
  intro h
  have hB : Byt (xs.take (xs.length - 2)) := fun b hb => hx b (List.mem_of_mem_take hb)
  generalize xs.take (xs.length - 2) = B at hs hB
  subst hs
  exact hne (seal_told hB hi hv (by rw [List.length_set]; exact h))
theorem lay_inj {s t : SHQ} {n f g : Int} (h : RtP s n) (l1 : s.1.length = 8) (l8 : s.2.length = 8) (l4 : ∀ y ∈ s.2, y.length = 4) (hf : 0 ≤ f ∧ f ≤ 65535)
    (h' : RtP t n) (m1 : t.1.length = 8) (m8 : t.2.length = 8) (m4 : ∀ y ∈ t.2, y.length = 4) (hg : 0 ≤ g ∧ g ≤ 65535) (e : layS f s n = layS g t n) : f = g ∧ s = t := by
  have h1 := (read_lay h l1 l8 l4 hf).2
  have h2 := (read_lay h' m1 m8 m4 hg).2
  rw [e, h2] at h1
  have := (Prod.mk.inj h1).1
  exact ⟨(Prod.mk.inj this).1.symm, (Prod.mk.inj this).2.symm⟩
theorem byteB_app {L M : List Int} {i : Nat} (h : 8 * i + 7 < L.length) : byteB (L ++ M) i = byteB L i := by
  unfold byteB
  have g : ∀ p, p < L.length → (L ++ M).getD p 0 = L.getD p 0 := fun p hp => by
    rw [List.getD_eq_getElem?_getD, List.getElem?_append_left hp, ← List.getD_eq_getElem?_getD]
  rw [g _ (by omega), g _ (by omega), g _ (by omega), g _ (by omega), g _ (by omega), g _ (by omega), g _ (by omega), g _ (by omega)]
theorem lay_head {s : SHQ} {n f : Int} (h : RtP s n) (l1 : s.1.length = 8) (l8 : s.2.length = 8) : (layS f s n).take 6 = packB (bitsN f 16 ++ sideB s.1) := by
  have hn := h.sz
  obtain ⟨-, -, hk3⟩ := give_fit h.rt hn
  have hl : ((layB f s).length : Int) ≤ 8 * (n - 2) := by rw [layB_all h l1 l8]; exact hk3
  have hbl := body_len (f := f) hn.1 hl
  have h48 : (bitsN f 16 ++ sideB s.1).length = 48 := by rw [List.length_append, bitsN_len, sideB_len, l1]
  have e : (layS f s n).take 6 = (bodyS f s n).take 6 := by
    unfold layS sealS
    rw [List.take_append_of_le_length (by omega)]
  rw [e]
  refine ext_getD (by rw [List.length_take, packB_len, h48]; omega) fun p hp => ?_
  rw [List.length_take] at hp
  have h6 : p < 6 := by omega
  rw [getD_take' h6, body_eq hn.1 hl]
  have hb2 := layB_all (f := f) h l1 l8
  rw [packB_getD _ (by rw [List.length_append, List.length_replicate]; omega), packB_getD _ (by rw [h48]; omega)]
  have e2 : layB f s ++ List.replicate (8 * (n - 2).toNat - (layB f s).length) 0 = (bitsN f 16 ++ sideB s.1) ++ (rowsB s.2 ++ List.replicate (8 * (n - 2).toNat - (layB f s).length) 0) := by
    unfold layB; simp only [List.append_assoc]
  rw [e2, byteB_app (by omega)]
theorem bitsN_getD (x : Int) {n i : Nat} (h : i < n) : (bitsN x n).getD i 0 = x / 2 ^ (n - 1 - i) % 2 := by
  rw [List.getD_eq_getElem?_getD, bitsN_at x h]; rfl
theorem sideB_at (S : List Int) {b j : Nat} (hb : b < S.length) (hj : j < 4) : (sideB S).getD (4 * b + j) 0 = S.getD b 0 / 2 ^ (3 - j) % 2 := by
  have e : (sideB S).drop (4 * b) = bitsN (S.getD b 0) 4 ++ sideB (S.drop (b + 1)) := by
    rw [sideB_drop]
    have : S.drop b = S.getD b 0 :: S.drop (b + 1) := by
      rw [List.getD_eq_getElem?_getD, List.getElem?_eq_getElem hb, Option.getD_some, List.getElem_cons_drop]
    rw [this]
    unfold sideB; rw [List.flatMap_cons]
  rw [← getD_drop', e, List.getD_eq_getElem?_getD (l := _ ++ _), List.getElem?_append_left (by rw [bitsN_len]; exact hj), ← List.getD_eq_getElem?_getD, bitsN_getD _ hj]
theorem bits16 {f : Int} (h : 0 ≤ f ∧ f ≤ 65535) (M : List Int) : byteB (bitsN f 16 ++ M) 0 = f / 256 ∧ byteB (bitsN f 16 ++ M) 1 = f % 256 := by
  rw [byteB_app (by rw [bitsN_len]; omega), byteB_app (by rw [bitsN_len]; omega)]
  unfold byteB
  simp only [Nat.mul_zero, Nat.mul_one, Nat.zero_add, Nat.reduceAdd]
  rw [bitsN_getD f (i := 0) (by omega), bitsN_getD f (i := 1) (by omega), bitsN_getD f (i := 2) (by omega), bitsN_getD f (i := 3) (by omega), bitsN_getD f (i := 4) (by omega), bitsN_getD f (i := 5) (by omega), bitsN_getD f (i := 6) (by omega), bitsN_getD f (i := 7) (by omega),
    bitsN_getD f (i := 8) (by omega), bitsN_getD f (i := 9) (by omega), bitsN_getD f (i := 10) (by omega), bitsN_getD f (i := 11) (by omega), bitsN_getD f (i := 12) (by omega), bitsN_getD f (i := 13) (by omega), bitsN_getD f (i := 14) (by omega), bitsN_getD f (i := 15) (by omega)]
  simp only [Nat.reduceSub, Int.reducePow]
  omega
theorem bits4 {a b : Int} (ha : 0 ≤ a ∧ a ≤ 15) (hb : 0 ≤ b ∧ b ≤ 15) : 128 * (a / 2 ^ 3 % 2) + 64 * (a / 2 ^ 2 % 2) + 32 * (a / 2 ^ 1 % 2) + 16 * (a / 2 ^ 0 % 2) + 8 * (b / 2 ^ 3 % 2) + 4 * (b / 2 ^ 2 % 2) + 2 * (b / 2 ^ 1 % 2) + b / 2 ^ 0 % 2 = 16 * a + b := by
  simp only [Int.reducePow]; omega
theorem side_byte {f : Int} {S : List Int} (l1 : S.length = 8) (hS : rightF S = true) {i : Nat} (hi : i < 4) : byteB (bitsN f 16 ++ sideB S) (2 + i) = 16 * S.getD (2 * i) 0 + S.getD (2 * i + 1) 0 := by
  have g : ∀ p, (bitsN f 16 ++ sideB S).getD (16 + p) 0 = (sideB S).getD p 0 := fun p => by
    rw [List.getD_eq_getElem?_getD, List.getElem?_append_right (by rw [bitsN_len]; omega), bitsN_len, Nat.add_sub_cancel_left, ← List.getD_eq_getElem?_getD]
  unfold byteB
  rw [show 8 * (2 + i) = 16 + (4 * (2 * i) + 0) by omega, show 16 + (4 * (2 * i) + 0) + 1 = 16 + (4 * (2 * i) + 1) by omega, show 16 + (4 * (2 * i) + 0) + 2 = 16 + (4 * (2 * i) + 2) by omega, show 16 + (4 * (2 * i) + 0) + 3 = 16 + (4 * (2 * i) + 3) by omega,
    show 16 + (4 * (2 * i) + 0) + 4 = 16 + (4 * (2 * i + 1) + 0) by omega, show 16 + (4 * (2 * i) + 0) + 5 = 16 + (4 * (2 * i + 1) + 1) by omega, show 16 + (4 * (2 * i) + 0) + 6 = 16 + (4 * (2 * i + 1) + 2) by omega, show 16 + (4 * (2 * i) + 0) + 7 = 16 + (4 * (2 * i + 1) + 3) by omega]
  rw [g, g, g, g, g, g, g, g, sideB_at S (by omega) (by omega), sideB_at S (by omega) (by omega), sideB_at S (by omega) (by omega), sideB_at S (by omega) (by omega), sideB_at S (by omega) (by omega), sideB_at S (by omega) (by omega), sideB_at S (by omega) (by omega), sideB_at S (by omega) (by omega)]
  exact bits4 (right_at hS _) (right_at hS _)
end Go.SL.A

/- The document's packets: plain functions. -/
namespace Go.SL.S
open Go Go.SL
def byteTo (L : List Int) (i : Nat) : Nat → Int
  | 0 => 0
  | k + 1 => 2 * byteTo L i k + L.getD (8 * i + k) 0
/-- The first bits of a text's bytes. -/
def bitsTo (s : ByteArray) (i k : Nat) : List Int := unB ((ofBytes s).take i) ++ (bitsN (byteAt s i) 8).take k
def numTo19 (L : List Int) (a : Nat) : Nat → Int
  | 0 => 0
  | k + 1 => 2 * numTo19 L a k + L.getD (a + k) 0
end Go.SL.S
