/- Part 5 of what the statements of this seat need: a logic of states for the code of the model, the functions that they reach, and what these are held to do: no condition. -/
import Derived.Test.YteahjgigkbkcdaaDoorS04
import Derived.Test.YteahjgigkbkcdaaDoorS03

/- Functions and what they are held to do: bound to their code. -/
namespace Go.SL.A
open Go Go.SL Go.SL.S
set_option maxRecDepth 100000
noncomputable def Cd45 : Ctx := ⟨Go.Proofs.Tryd.prog, D, Gd17, (fun _ _ => none), fun _ => []⟩
def annd45 (s : List Int × List (List Int)) (n : Int) : Nat → St → Option Ann := fun _ _ => some ⟨Nat, [6, 28], [1], fun i => [(29, .v (.int .i64) (i : Int))], fun _ => [], fun i => i ≤ 8 ∧ ((List.range i).all fun b => decide (pulsesF (s.2.getD b (List.replicate 4 0)) = (giveV s.1 (giveB n)).getD b 0)) = true, fun i => 8 - i⟩
def outd45 (s : List Int × List (List Int)) (n : Int) : COut := ⟨[], .v .bool (packR s n), [], []⟩
def spd45 : Spec := fun args ins => match args, ins with
  | [⟨(.cons (.arr 8 (.int .i64)) (.last (.arr 8 (.arr 4 (.int .i64))))), s⟩, ⟨.int .i64, n⟩], [] => some (outd45 s n)
  | _, _ => none
def Gd45 := addG Gd17 33 spd45
def Pd45 (s : List Int × List (List Int)) (n : Int) : Prop :=
 bif decide (giveB n=0) then (true=false→false=true)∧false=packR s n else bif !rightF s.1 then false=packR s n else ∃ (x:Nat),((0=0∧s.2=s.2∧0=(x:Int)∧giveV s.1 (giveB n)=giveV s.1 (giveB n)∧false=false)∧x≤8∧(List.all (List.range.loop
 x []) fun (b:Nat) => decide (pulsesF (List.getD s.2 b (List.replicate 4 (0:Int)))=List.getD (giveV s.1 (giveB n)) b (0:Int)))=true)∧∀ (x:Nat),x≤8∧(List.all (List.range.loop x []) fun (b:Nat) => decide (pulsesF (List.getD s.2 b (List.replicate
 4 (0:Int)))=List.getD (giveV s.1 (giveB n)) b (0:Int)))=true→IntKind.min .i64≤(x:Int)∧(x:Int)≤IntKind.max .i64→bif decide ((x:Int)<8) then (0≤(x:Int)∧(x:Int)<(↑ (8:Nat):Int))∧((4:Nat)≤9223372036854775807∧4=List.length (List.getD s.2
 (x:Int).toNat (List.replicate 4 (0:Int)))∧(0≤(x:Int)∧(x:Int)<(↑ (8:Nat):Int))∧(x:Int).toNat<8)∧bif !decide (pulsesF (List.getD s.2 (x:Int).toNat (List.replicate 4 (0:Int)))=List.getD (giveV s.1 (giveB n)) (x:Int).toNat (0:Int)) then
 false=packR s n else ∃ (y:Nat),(0=0∧s.2=s.2∧IntKind.wrap .i64 ((x:Int)+1)=(y:Int)∧giveV s.1 (giveB n)=giveV s.1 (giveB n)∧false=false)∧(y≤8∧(List.all (List.range.loop y []) fun (b:Nat) => decide (pulsesF (List.getD s.2 b (List.replicate
 4 (0:Int)))=List.getD (giveV s.1 (giveB n)) b (0:Int)))=true)∧8 - y<8 - x else true=packR s n
theorem vcd45 (s : List Int × List (List Int)) (n : Int) : Pd45 s n = vcFun Cd45 (annd45 s n) Go.Proofs.Tryd.f33 [⟨(.cons (.arr 8 (.int .i64)) (.last (.arr 8 (.arr 4 (.int .i64))))), s⟩, ⟨.int .i64, n⟩] [] (outd45 s n) := by kernel_rfl

noncomputable def Cd26 : Ctx := ⟨Go.Proofs.Tryd.prog, D, Gd45, (fun _ _ => none), fun _ => []⟩
def annd26 (side l : List Int) (_n : Int) : Nat → St → Option Ann := fun id S => match id with | 0 => some ⟨Nat, [2, 3, 4, 6, 7], [0, 1, 2], fun i => [(8, .v (.int .i64) (i : Int))], fun i => [(3, some ⟨false, true, (.cons (.arr 8 (.int .i64)) (.last (.arr 8 (.arr 4 (.int .i64))))), [((held8 side).take i ++ (List.replicate 8 0).drop i, List.replicate 8 (List.replicate 4 0))]⟩)], fun i => i ≤ 8, fun i => 8 - i⟩ | 2 => some ⟨Nat, [4, 6, 7, 9], [1, 2, 4], fun b => [(10, .v (.int .i64) (b : Int))], fun b => [(3, some ⟨false, true, (.cons (.arr 8 (.int .i64)) (.last (.arr 8 (.arr 4 (.int .i64))))), [((S.x 3 (.cons (.arr 8 (.int .i64)) (.last (.arr 8 (.arr 4 (.int .i64)))))).1, (shRows (S.x 4 (.arr 8 (.int .i64))) l).take b ++ (List.replicate 8 (List.replicate 4 0)).drop b)]⟩)], fun b => b ≤ 8, fun b => 8 - b⟩ | _ => some ⟨Nat, [4, 6, 7, 9, 10, 12], [1, 2, 4, 5], fun i => [(14, .v (.int .i64) (i : Int))], fun i => [(3, some ⟨false, true, (.cons (.arr 8 (.int .i64)) (.last (.arr 8 (.arr 4 (.int .i64))))), [((S.x 3 (.cons (.arr 8 (.int .i64)) (.last (.arr 8 (.arr 4 (.int .i64)))))).1, List.set (S.x 3 (.cons (.arr 8 (.int .i64)) (.last (.arr 8 (.arr 4 (.int .i64)))))).2 (S.i 10).toNat ((S.xs 5 (.int .i64)).take i ++ (List.replicate 4 0).drop i))]⟩)], fun i => i ≤ 4, fun i => 4 - i⟩
def outd26 (side l : List Int) (n : Int) : COut := ⟨[12 ≤ n ∧ n ≤ 24], .v (.cons (.arr 8 (.int .i64)) (.last (.arr 8 (.arr 4 (.int .i64))))) (shape19 side l n), [], []⟩
def spd26 : Spec := fun args ins => match args, ins with
  | [⟨.arr 8 (.int .i64), side⟩, ⟨.arr 8 (.int .u32), l⟩, ⟨.int .i64, n⟩], [] => some (outd26 side l n)
  | _, _ => none
def Gd26 := addG Gd45 13 spd26
def Pd26 (side l : List Int) (n : Int) : Prop :=
 ∃ (x:Nat),((n=n∧0=0∧0=0∧0=0∧0=0∧0=(x:Int)∧side=side∧false=false∧l=l∧false=false∧List.replicate 8 (0:Int)=List.replicate 8 (0:Int)∧List.replicate 8 (List.replicate 4 (0:Int))=List.replicate 8 (List.replicate 4 (0:Int))∧false=false∧List.replicate
 8 (0:Int)=List.take x (held8 side) ++ List.drop x (List.replicate 8 (0:Int))∧List.replicate 8 (List.replicate 4 (0:Int))=List.replicate 8 (List.replicate 4 (0:Int))∧false=false)∧x≤8)∧∀ (x:Nat),x≤8→(IntKind.min .i64≤(x:Int)∧(x:Int)≤IntKind.max
 .i64∧∀ (y:List Int × List (List Int)),List.Mem y [(List.take x (held8 side) ++ List.drop x (List.replicate 8 (0:Int)),List.replicate 8 (List.replicate 4 (0:Int)))]→List.length y.1=8∧(∀ (y_1:Int),List.Mem y_1 y.1→IntKind.min .i64≤y_1∧y_1≤IntKind.max
 .i64)∧List.length y.2=8∧∀ (y_1:List Int),List.Mem y_1 y.2→List.length y_1=4∧∀ (y:Int),List.Mem y y_1→IntKind.min .i64≤y∧y≤IntKind.max .i64)→bif decide ((x:Int)<8) then ((0≤(x:Int)∧(x:Int)<(↑ (8:Nat):Int))∧(x:Int).toNat<8∧(0≤(x:Int)∧(x:Int)<(↑
 (8:Nat):Int))∧(x:Int).toNat<8)∧∃ (y:Nat),(n=n∧0=0∧0=0∧0=0∧0=0∧IntKind.wrap .i64 ((x:Int)+1)=(y:Int)∧side=side∧false=false∧l=l∧false=false∧List.replicate 8 (0:Int)=List.replicate 8 (0:Int)∧List.replicate 8 (List.replicate 4 (0:Int))=List.replicate
 8 (List.replicate 4 (0:Int))∧false=false∧List.set (List.take x (held8 side) ++ List.drop x (List.replicate 8 (0:Int))) (x:Int).toNat (iand .i64 (List.getD side (x:Int).toNat (0:Int)) (15:Int))=List.take y (held8 side) ++ List.drop y
 (List.replicate 8 (0:Int))∧List.replicate 8 (List.replicate 4 (0:Int))=List.replicate 8 (List.replicate 4 (0:Int))∧false=false)∧y≤8∧8 - y<8 - x else (rightF (List.take x (held8 side) ++ List.drop x (List.replicate 8 (0:Int)))=true∧0≤IntKind.wrap
 .i64 (IntKind.wrap .i64 ((8:Int) * n) - 64)∧IntKind.wrap .i64 (IntKind.wrap .i64 ((8:Int) * n) - 64)≤1048576)∧∃ (x_1:Nat),((0=0∧0=0∧0=0∧0=0∧0=(x_1:Int)∧l=l∧false=false∧List.replicate 8 (0:Int)=List.replicate 8 (0:Int)∧List.replicate
 8 (List.replicate 4 (0:Int))=List.replicate 8 (List.replicate 4 (0:Int))∧false=false∧List.take x (held8 side) ++ List.drop x (List.replicate 8 (0:Int))=List.take x (held8 side) ++ List.drop x (List.replicate 8 (0:Int))∧List.replicate
 8 (List.replicate 4 (0:Int))=List.take x_1 (shRows (refF (List.take x (held8 side) ++ List.drop x (List.replicate 8 (0:Int))) (IntKind.wrap .i64 (IntKind.wrap .i64 ((8:Int) * n) - 64))) l) ++ List.drop x_1 (List.replicate 8 (List.replicate
 4 (0:Int)))∧false=false∧refF (List.take x (held8 side) ++ List.drop x (List.replicate 8 (0:Int))) (IntKind.wrap .i64 (IntKind.wrap .i64 ((8:Int) * n) - 64))=refF (List.take x (held8 side) ++ List.drop x (List.replicate 8 (0:Int))) (IntKind.wrap
 .i64 (IntKind.wrap .i64 ((8:Int) * n) - 64))∧false=false)∧x_1≤8)∧∀ (x_2:Nat),x_2≤8→(IntKind.min .i64≤(x_2:Int)∧(x_2:Int)≤IntKind.max .i64∧∀ (y:List Int × List (List Int)),List.Mem y [(List.take x (held8 side) ++ List.drop x (List.replicate
 8 (0:Int)),List.take x_2 (shRows (refF (List.take x (held8 side) ++ List.drop x (List.replicate 8 (0:Int))) (IntKind.wrap .i64 (IntKind.wrap .i64 ((8:Int) * n) - 64))) l) ++ List.drop x_2 (List.replicate 8 (List.replicate 4 (0:Int))))]→List.length
 y.1=8∧(∀ (y_1:Int),List.Mem y_1 y.1→IntKind.min .i64≤y_1∧y_1≤IntKind.max .i64)∧List.length y.2=8∧∀ (y_1:List Int),List.Mem y_1 y.2→List.length y_1=4∧∀ (y:Int),List.Mem y y_1→IntKind.min .i64≤y∧y≤IntKind.max .i64)→bif decide ((x_2:Int)<8)
 then ((0≤(x_2:Int)∧(x_2:Int)<(↑ (8:Nat):Int))∧(x_2:Int).toNat<8)∧bif decide (countF (4:Int) (List.getD (refF (List.take x (held8 side) ++ List.drop x (List.replicate 8 (0:Int))) (IntKind.wrap .i64 (IntKind.wrap .i64 ((8:Int) * n) -
 64))) (x_2:Int).toNat (0:Int))=0) then List.take x (held8 side) ++ List.drop x (List.replicate 8 (0:Int))=(shape19 side l n).1∧List.take x_2 (shRows (refF (List.take x (held8 side) ++ List.drop x (List.replicate 8 (0:Int))) (IntKind.wrap
 .i64 (IntKind.wrap .i64 ((8:Int) * n) - 64))) l) ++ List.drop x_2 (List.replicate 8 (List.replicate 4 (0:Int)))=(shape19 side l n).2 else ((0≤(x_2:Int)∧(x_2:Int)<(↑ (8:Nat):Int))∧(x_2:Int).toNat<8∧(0≤(x_2:Int)∧(x_2:Int)<(↑ (8:Nat):Int))∧(x_2:Int).toNat<8∧countF
 (4:Int) (List.getD (refF (List.take x (held8 side) ++ List.drop x (List.replicate 8 (0:Int))) (IntKind.wrap .i64 (IntKind.wrap .i64 ((8:Int) * n) - 64))) (x_2:Int).toNat (0:Int))≠0)∧∃ (x_3:Nat),((0=0∧0=0∧0=0∧0=0∧(x_2:Int)=(x_2:Int)∧0=0∧List.length
 (vecF (4:Int) (List.getD (refF (List.take x (held8 side) ++ List.drop x (List.replicate 8 (0:Int))) (IntKind.wrap .i64 (IntKind.wrap .i64 ((8:Int) * n) - 64))) (x_2:Int).toNat (0:Int)) (Int.tmod (IntKind.wrap .i64 (List.getD l (x_2:Int).toNat
 (0:Int))) (countF (4:Int) (List.getD (refF (List.take x (held8 side) ++ List.drop x (List.replicate 8 (0:Int))) (IntKind.wrap .i64 (IntKind.wrap .i64 ((8:Int) * n) - 64))) (x_2:Int).toNat (0:Int)))))=List.length (vecF (4:Int) (List.getD
 (refF (List.take x (held8 side) ++ List.drop x (List.replicate 8 (0:Int))) (IntKind.wrap .i64 (IntKind.wrap .i64 ((8:Int) * n) - 64))) (x_2:Int).toNat (0:Int)) (Int.tmod (IntKind.wrap .i64 (List.getD l (x_2:Int).toNat (0:Int))) (countF
 (4:Int) (List.getD (refF (List.take x (held8 side) ++ List.drop x (List.replicate 8 (0:Int))) (IntKind.wrap .i64 (IntKind.wrap .i64 ((8:Int) * n) - 64))) (x_2:Int).toNat (0:Int)))))∧0=(x_3:Int)∧l=l∧false=false∧List.replicate 8 (0:Int)=List.replicate
 8 (0:Int)∧List.replicate 8 (List.replicate 4 (0:Int))=List.replicate 8 (List.replicate 4 (0:Int))∧false=false∧List.take x (held8 side) ++ List.drop x (List.replicate 8 (0:Int))=List.take x (held8 side) ++ List.drop x (List.replicate
 8 (0:Int))∧List.take x_2 (shRows (refF (List.take x (held8 side) ++ List.drop x (List.replicate 8 (0:Int))) (IntKind.wrap .i64 (IntKind.wrap .i64 ((8:Int) * n) - 64))) l) ++ List.drop x_2 (List.replicate 8 (List.replicate 4 (0:Int)))=List.set
 (List.take x_2 (shRows (refF (List.take x (held8 side) ++ List.drop x (List.replicate 8 (0:Int))) (IntKind.wrap .i64 (IntKind.wrap .i64 ((8:Int) * n) - 64))) l) ++ List.drop x_2 (List.replicate 8 (List.replicate 4 (0:Int)))) (x_2:Int).toNat
 (List.take x_3 (vecF (4:Int) (List.getD (refF (List.take x (held8 side) ++ List.drop x (List.replicate 8 (0:Int))) (IntKind.wrap .i64 (IntKind.wrap .i64 ((8:Int) * n) - 64))) (x_2:Int).toNat (0:Int)) (Int.tmod (IntKind.wrap .i64 (List.getD
 l (x_2:Int).toNat (0:Int))) (countF (4:Int) (List.getD (refF (List.take x (held8 side) ++ List.drop x (List.replicate 8 (0:Int))) (IntKind.wrap .i64 (IntKind.wrap .i64 ((8:Int) * n) - 64))) (x_2:Int).toNat (0:Int))))) ++ List.drop x_3
 (List.replicate 4 (0:Int)))∧false=false∧refF (List.take x (held8 side) ++ List.drop x (List.replicate 8 (0:Int))) (IntKind.wrap .i64 (IntKind.wrap .i64 ((8:Int) * n) - 64))=refF (List.take x (held8 side) ++ List.drop x (List.replicate
 8 (0:Int))) (IntKind.wrap .i64 (IntKind.wrap .i64 ((8:Int) * n) - 64))∧false=false∧vecF (4:Int) (List.getD (refF (List.take x (held8 side) ++ List.drop x (List.replicate 8 (0:Int))) (IntKind.wrap .i64 (IntKind.wrap .i64 ((8:Int) * n)
 - 64))) (x_2:Int).toNat (0:Int)) (Int.tmod (IntKind.wrap .i64 (List.getD l (x_2:Int).toNat (0:Int))) (countF (4:Int) (List.getD (refF (List.take x (held8 side) ++ List.drop x (List.replicate 8 (0:Int))) (IntKind.wrap .i64 (IntKind.wrap
 .i64 ((8:Int) * n) - 64))) (x_2:Int).toNat (0:Int))))=vecF (4:Int) (List.getD (refF (List.take x (held8 side) ++ List.drop x (List.replicate 8 (0:Int))) (IntKind.wrap .i64 (IntKind.wrap .i64 ((8:Int) * n) - 64))) (x_2:Int).toNat (0:Int))
 (Int.tmod (IntKind.wrap .i64 (List.getD l (x_2:Int).toNat (0:Int))) (countF (4:Int) (List.getD (refF (List.take x (held8 side) ++ List.drop x (List.replicate 8 (0:Int))) (IntKind.wrap .i64 (IntKind.wrap .i64 ((8:Int) * n) - 64))) (x_2:Int).toNat
 (0:Int))))∧false=false)∧x_3≤4)∧∀ (x_4:Nat),x_4≤4→(IntKind.min .i64≤(x_4:Int)∧(x_4:Int)≤IntKind.max .i64∧∀ (y:List Int × List (List Int)),List.Mem y [(List.take x (held8 side) ++ List.drop x (List.replicate 8 (0:Int)),List.set (List.take
 x_2 (shRows (refF (List.take x (held8 side) ++ List.drop x (List.replicate 8 (0:Int))) (IntKind.wrap .i64 (IntKind.wrap .i64 ((8:Int) * n) - 64))) l) ++ List.drop x_2 (List.replicate 8 (List.replicate 4 (0:Int)))) (x_2:Int).toNat (List.take
 x_4 (vecF (4:Int) (List.getD (refF (List.take x (held8 side) ++ List.drop x (List.replicate 8 (0:Int))) (IntKind.wrap .i64 (IntKind.wrap .i64 ((8:Int) * n) - 64))) (x_2:Int).toNat (0:Int)) (Int.tmod (IntKind.wrap .i64 (List.getD l (x_2:Int).toNat
 (0:Int))) (countF (4:Int) (List.getD (refF (List.take x (held8 side) ++ List.drop x (List.replicate 8 (0:Int))) (IntKind.wrap .i64 (IntKind.wrap .i64 ((8:Int) * n) - 64))) (x_2:Int).toNat (0:Int))))) ++ List.drop x_4 (List.replicate
 4 (0:Int))))]→List.length y.1=8∧(∀ (y_1:Int),List.Mem y_1 y.1→IntKind.min .i64≤y_1∧y_1≤IntKind.max .i64)∧List.length y.2=8∧∀ (y_1:List Int),List.Mem y_1 y.2→List.length y_1=4∧∀ (y:Int),List.Mem y y_1→IntKind.min .i64≤y∧y≤IntKind.max
 .i64)→∀ (b:Bool),decide ((x_4:Int)<4)=b→((b=true→b=true)∧(b=true→b=true)∧(b=true→b=true))∧bif bif b then decide ((↑ (List.length (vecF (4:Int) (List.getD (refF (List.take x (held8 side) ++ List.drop x (List.replicate 8 (0:Int))) (IntKind.wrap
 .i64 (IntKind.wrap .i64 ((8:Int) * n) - 64))) (x_2:Int).toNat (0:Int)) (Int.tmod (IntKind.wrap .i64 (List.getD l (x_2:Int).toNat (0:Int))) (countF (4:Int) (List.getD (refF (List.take x (held8 side) ++ List.drop x (List.replicate 8 (0:Int)))
 (IntKind.wrap .i64 (IntKind.wrap .i64 ((8:Int) * n) - 64))) (x_2:Int).toNat (0:Int)))))):Int)=4) else false then ((0≤(x_4:Int)∧(x_4:Int)<(↑ (List.length (vecF (4:Int) (List.getD (refF (List.take x (held8 side) ++ List.drop x (List.replicate
 8 (0:Int))) (IntKind.wrap .i64 (IntKind.wrap .i64 ((8:Int) * n) - 64))) (x_2:Int).toNat (0:Int)) (Int.tmod (IntKind.wrap .i64 (List.getD l (x_2:Int).toNat (0:Int))) (countF (4:Int) (List.getD (refF (List.take x (held8 side) ++ List.drop
 x (List.replicate 8 (0:Int))) (IntKind.wrap .i64 (IntKind.wrap .i64 ((8:Int) * n) - 64))) (x_2:Int).toNat (0:Int)))))):Int))∧0+(x_4:Int).toNat<List.length (vecF (4:Int) (List.getD (refF (List.take x (held8 side) ++ List.drop x (List.replicate
 8 (0:Int))) (IntKind.wrap .i64 (IntKind.wrap .i64 ((8:Int) * n) - 64))) (x_2:Int).toNat (0:Int)) (Int.tmod (IntKind.wrap .i64 (List.getD l (x_2:Int).toNat (0:Int))) (countF (4:Int) (List.getD (refF (List.take x (held8 side) ++ List.drop
 x (List.replicate 8 (0:Int))) (IntKind.wrap .i64 (IntKind.wrap .i64 ((8:Int) * n) - 64))) (x_2:Int).toNat (0:Int)))))∧(0≤(x_2:Int)∧(x_2:Int)<(↑ (8:Nat):Int))∧(0≤(x_4:Int)∧(x_4:Int)<(↑ (4:Nat):Int))∧(x_2:Int).toNat<8∧(x_4:Int).toNat<4)∧∃
 (y:Nat),(0=0∧0=0∧0=0∧0=0∧(x_2:Int)=(x_2:Int)∧0=0∧List.length (vecF (4:Int) (List.getD (refF (List.take x (held8 side) ++ List.drop x (List.replicate 8 (0:Int))) (IntKind.wrap .i64 (IntKind.wrap .i64 ((8:Int) * n) - 64))) (x_2:Int).toNat
 (0:Int)) (Int.tmod (IntKind.wrap .i64 (List.getD l (x_2:Int).toNat (0:Int))) (countF (4:Int) (List.getD (refF (List.take x (held8 side) ++ List.drop x (List.replicate 8 (0:Int))) (IntKind.wrap .i64 (IntKind.wrap .i64 ((8:Int) * n) -
 64))) (x_2:Int).toNat (0:Int)))))=List.length (vecF (4:Int) (List.getD (refF (List.take x (held8 side) ++ List.drop x (List.replicate 8 (0:Int))) (IntKind.wrap .i64 (IntKind.wrap .i64 ((8:Int) * n) - 64))) (x_2:Int).toNat (0:Int)) (Int.tmod
 (IntKind.wrap .i64 (List.getD l (x_2:Int).toNat (0:Int))) (countF (4:Int) (List.getD (refF (List.take x (held8 side) ++ List.drop x (List.replicate 8 (0:Int))) (IntKind.wrap .i64 (IntKind.wrap .i64 ((8:Int) * n) - 64))) (x_2:Int).toNat
 (0:Int)))))∧IntKind.wrap .i64 ((x_4:Int)+1)=(y:Int)∧l=l∧false=false∧List.replicate 8 (0:Int)=List.replicate 8 (0:Int)∧List.replicate 8 (List.replicate 4 (0:Int))=List.replicate 8 (List.replicate 4 (0:Int))∧false=false∧List.take x (held8
 side) ++ List.drop x (List.replicate 8 (0:Int))=List.take x (held8 side) ++ List.drop x (List.replicate 8 (0:Int))∧List.set (List.set (List.take x_2 (shRows (refF (List.take x (held8 side) ++ List.drop x (List.replicate 8 (0:Int)))
 (IntKind.wrap .i64 (IntKind.wrap .i64 ((8:Int) * n) - 64))) l) ++ List.drop x_2 (List.replicate 8 (List.replicate 4 (0:Int)))) (x_2:Int).toNat (List.take x_4 (vecF (4:Int) (List.getD (refF (List.take x (held8 side) ++ List.drop x (List.replicate
 8 (0:Int))) (IntKind.wrap .i64 (IntKind.wrap .i64 ((8:Int) * n) - 64))) (x_2:Int).toNat (0:Int)) (Int.tmod (IntKind.wrap .i64 (List.getD l (x_2:Int).toNat (0:Int))) (countF (4:Int) (List.getD (refF (List.take x (held8 side) ++ List.drop
 x (List.replicate 8 (0:Int))) (IntKind.wrap .i64 (IntKind.wrap .i64 ((8:Int) * n) - 64))) (x_2:Int).toNat (0:Int))))) ++ List.drop x_4 (List.replicate 4 (0:Int)))) (x_2:Int).toNat (List.set (List.getD (List.set (List.take x_2 (shRows
 (refF (List.take x (held8 side) ++ List.drop x (List.replicate 8 (0:Int))) (IntKind.wrap .i64 (IntKind.wrap .i64 ((8:Int) * n) - 64))) l) ++ List.drop x_2 (List.replicate 8 (List.replicate 4 (0:Int)))) (x_2:Int).toNat (List.take x_4
 (vecF (4:Int) (List.getD (refF (List.take x (held8 side) ++ List.drop x (List.replicate 8 (0:Int))) (IntKind.wrap .i64 (IntKind.wrap .i64 ((8:Int) * n) - 64))) (x_2:Int).toNat (0:Int)) (Int.tmod (IntKind.wrap .i64 (List.getD l (x_2:Int).toNat
 (0:Int))) (countF (4:Int) (List.getD (refF (List.take x (held8 side) ++ List.drop x (List.replicate 8 (0:Int))) (IntKind.wrap .i64 (IntKind.wrap .i64 ((8:Int) * n) - 64))) (x_2:Int).toNat (0:Int))))) ++ List.drop x_4 (List.replicate
 4 (0:Int)))) (x_2:Int).toNat (List.replicate 4 (0:Int))) (x_4:Int).toNat (List.getD (vecF (4:Int) (List.getD (refF (List.take x (held8 side) ++ List.drop x (List.replicate 8 (0:Int))) (IntKind.wrap .i64 (IntKind.wrap .i64 ((8:Int) *
 n) - 64))) (x_2:Int).toNat (0:Int)) (Int.tmod (IntKind.wrap .i64 (List.getD l (x_2:Int).toNat (0:Int))) (countF (4:Int) (List.getD (refF (List.take x (held8 side) ++ List.drop x (List.replicate 8 (0:Int))) (IntKind.wrap .i64 (IntKind.wrap
 .i64 ((8:Int) * n) - 64))) (x_2:Int).toNat (0:Int))))) (0+(x_4:Int).toNat) (0:Int)))=List.set (List.take x_2 (shRows (refF (List.take x (held8 side) ++ List.drop x (List.replicate 8 (0:Int))) (IntKind.wrap .i64 (IntKind.wrap .i64 ((8:Int)
 * n) - 64))) l) ++ List.drop x_2 (List.replicate 8 (List.replicate 4 (0:Int)))) (x_2:Int).toNat (List.take y (vecF (4:Int) (List.getD (refF (List.take x (held8 side) ++ List.drop x (List.replicate 8 (0:Int))) (IntKind.wrap .i64 (IntKind.wrap
 .i64 ((8:Int) * n) - 64))) (x_2:Int).toNat (0:Int)) (Int.tmod (IntKind.wrap .i64 (List.getD l (x_2:Int).toNat (0:Int))) (countF (4:Int) (List.getD (refF (List.take x (held8 side) ++ List.drop x (List.replicate 8 (0:Int))) (IntKind.wrap
 .i64 (IntKind.wrap .i64 ((8:Int) * n) - 64))) (x_2:Int).toNat (0:Int))))) ++ List.drop y (List.replicate 4 (0:Int)))∧false=false∧refF (List.take x (held8 side) ++ List.drop x (List.replicate 8 (0:Int))) (IntKind.wrap .i64 (IntKind.wrap
 .i64 ((8:Int) * n) - 64))=refF (List.take x (held8 side) ++ List.drop x (List.replicate 8 (0:Int))) (IntKind.wrap .i64 (IntKind.wrap .i64 ((8:Int) * n) - 64))∧false=false∧vecF (4:Int) (List.getD (refF (List.take x (held8 side) ++ List.drop
 x (List.replicate 8 (0:Int))) (IntKind.wrap .i64 (IntKind.wrap .i64 ((8:Int) * n) - 64))) (x_2:Int).toNat (0:Int)) (Int.tmod (IntKind.wrap .i64 (List.getD l (x_2:Int).toNat (0:Int))) (countF (4:Int) (List.getD (refF (List.take x (held8
 side) ++ List.drop x (List.replicate 8 (0:Int))) (IntKind.wrap .i64 (IntKind.wrap .i64 ((8:Int) * n) - 64))) (x_2:Int).toNat (0:Int))))=vecF (4:Int) (List.getD (refF (List.take x (held8 side) ++ List.drop x (List.replicate 8 (0:Int)))
 (IntKind.wrap .i64 (IntKind.wrap .i64 ((8:Int) * n) - 64))) (x_2:Int).toNat (0:Int)) (Int.tmod (IntKind.wrap .i64 (List.getD l (x_2:Int).toNat (0:Int))) (countF (4:Int) (List.getD (refF (List.take x (held8 side) ++ List.drop x (List.replicate
 8 (0:Int))) (IntKind.wrap .i64 (IntKind.wrap .i64 ((8:Int) * n) - 64))) (x_2:Int).toNat (0:Int))))∧false=false)∧y≤4∧4 - y<4 - x_4 else ∃ (y:Nat),(0=0∧0=0∧0=0∧0=0∧IntKind.wrap .i64 ((x_2:Int)+1)=(y:Int)∧l=l∧false=false∧List.replicate
 8 (0:Int)=List.replicate 8 (0:Int)∧List.replicate 8 (List.replicate 4 (0:Int))=List.replicate 8 (List.replicate 4 (0:Int))∧false=false∧List.take x (held8 side) ++ List.drop x (List.replicate 8 (0:Int))=List.take x (held8 side) ++ List.drop
 x (List.replicate 8 (0:Int))∧List.set (List.take x_2 (shRows (refF (List.take x (held8 side) ++ List.drop x (List.replicate 8 (0:Int))) (IntKind.wrap .i64 (IntKind.wrap .i64 ((8:Int) * n) - 64))) l) ++ List.drop x_2 (List.replicate
 8 (List.replicate 4 (0:Int)))) (x_2:Int).toNat (List.take x_4 (vecF (4:Int) (List.getD (refF (List.take x (held8 side) ++ List.drop x (List.replicate 8 (0:Int))) (IntKind.wrap .i64 (IntKind.wrap .i64 ((8:Int) * n) - 64))) (x_2:Int).toNat
 (0:Int)) (Int.tmod (IntKind.wrap .i64 (List.getD l (x_2:Int).toNat (0:Int))) (countF (4:Int) (List.getD (refF (List.take x (held8 side) ++ List.drop x (List.replicate 8 (0:Int))) (IntKind.wrap .i64 (IntKind.wrap .i64 ((8:Int) * n) -
 64))) (x_2:Int).toNat (0:Int))))) ++ List.drop x_4 (List.replicate 4 (0:Int)))=List.take y (shRows (refF (List.take x (held8 side) ++ List.drop x (List.replicate 8 (0:Int))) (IntKind.wrap .i64 (IntKind.wrap .i64 ((8:Int) * n) - 64)))
 l) ++ List.drop y (List.replicate 8 (List.replicate 4 (0:Int)))∧false=false∧refF (List.take x (held8 side) ++ List.drop x (List.replicate 8 (0:Int))) (IntKind.wrap .i64 (IntKind.wrap .i64 ((8:Int) * n) - 64))=refF (List.take x (held8
 side) ++ List.drop x (List.replicate 8 (0:Int))) (IntKind.wrap .i64 (IntKind.wrap .i64 ((8:Int) * n) - 64))∧false=false)∧y≤8∧8 - y<8 - x_2 else List.take x (held8 side) ++ List.drop x (List.replicate 8 (0:Int))=(shape19 side l n).1∧List.take
 x_2 (shRows (refF (List.take x (held8 side) ++ List.drop x (List.replicate 8 (0:Int))) (IntKind.wrap .i64 (IntKind.wrap .i64 ((8:Int) * n) - 64))) l) ++ List.drop x_2 (List.replicate 8 (List.replicate 4 (0:Int)))=(shape19 side l n).2
theorem vcd26 (side l : List Int) (n : Int) : Pd26 side l n = vcFun Cd26 (annd26 side l n) Go.Proofs.Tryd.f13 [⟨.arr 8 (.int .i64), side⟩, ⟨.arr 8 (.int .u32), l⟩, ⟨.int .i64, n⟩] [] (outd26 side l n) := by kernel_rfl

end Go.SL.A

/- The search of a frame's bit finds the least far vector; it is the document's. -/
namespace Go.SL.A
open Go Go.SL Go.SL.S
set_option maxRecDepth 100000

def numsP : Nat → List Int
  | 0 => []
  | j + 1 => numsF j
theorem numsP_zero : numsP 1 = numsP 0 ++ [0] := rfl
theorem numsP_succ {j : Nat} (h : 0 < j) : numsP (j + 1) = numsP j ++ [(j : Int), -(j : Int)] := by
  obtain ⟨i, rfl⟩ : ∃ i, j = i + 1 := ⟨j - 1, by omega⟩
  rfl
theorem sz13_nat {j : Nat} (h : j ≤ 12) : (sz13 (j : Int)).toNat = j ∧ (sz13 (-(j : Int))).toNat = j := by
  rw [sz13_small (by omega) (by omega), sz13_small (by omega) (by omega)]; omega
theorem set_take {y : List Int} {i : Nat} (h : i < y.length) (v : Int) : (List.set y i v).take (i + 1) = y.take i ++ [v] := by
  rw [take_snoc' 0 (by rw [List.length_set]; exact h), List.take_set_of_le (Nat.le_refl i), List.getD_eq_getElem?_getD, List.getElem?_set_self h]; rfl

/-- What is looked at from a place on. -/
def lookL (m K : Nat) (p : List Int) : List (List Int) := (allV (m + 1) K).map (p ++ ·)
structure Ok3 (m i K : Nat) (y : List Int) (x : S.SR) (st : ES) : Prop where
  v : st.2 = (lookL m K (y.take i)).foldl lookF x
  l : st.1.length = 4
  t : st.1.take i = y.take i
def lookP (m K : Nat) (p : List Int) (j : Nat) : List (List Int) := ((numsP j).flatMap fun z => (allV (m + 1) (K - (sz13 z).toNat)).map (z :: ·)).map (p ++ ·)
structure Ok4 (m i K : Nat) (y : List Int) (x : S.SR) (j : Nat) (st : ES) : Prop where
  v : st.2 = (lookP m K (y.take i) j).foldl lookF x
  l : st.1.length = 4
  t : st.1.take i = y.take i

theorem lookL_at (m K : Nat) (p : List Int) (v : Int) : lookL m K (p ++ [v]) = ((allV (m + 1) K).map (v :: ·)).map (p ++ ·) := by
  unfold lookL
  rw [List.map_map]
  refine List.map_congr_left fun z _ => ?_
  show p ++ [v] ++ z = p ++ v :: z
  rw [List.append_assoc]; rfl

theorem each_ok3 : ∀ (m i K : Nat) (y : List Int) (x : S.SR), i + m = 3 → y.length = 4 → K ≤ 12 → Ok3 m i K y x (eachF m (i : Int) (K : Int) (y, x))
  | 0, i, K, y, x, hi, hl, hK => by
    have hi : i = 3 := by omega
    subst hi
    have e1 : ∀ v, List.set y 3 v = y.take 3 ++ [v] := fun v => by
      have := set_take (y := y) (i := 3) (by omega) v
      rw [List.take_of_length_le (by rw [List.length_set]; omega)] at this
      exact this
    have hv := allV_one K hK
    show Ok3 0 3 K y x (leafF ((3 : Nat) : Int) (K : Int) (y, x))
    unfold leafF
    simp only [Int.toNat_natCast, List.set_set]
    by_cases h : 0 < (K : Int)
    · rw [if_pos (by omega)] at hv
      rw [if_pos h]
      refine ⟨?_, by rw [List.length_set]; exact hl, by rw [List.take_set_of_le (Nat.le_refl 3)]⟩
      unfold lookL
      rw [hv, e1, e1]; rfl
    · rw [if_neg (by omega)] at hv
      rw [if_neg h]
      refine ⟨?_, by rw [List.length_set]; exact hl, by rw [List.take_set_of_le (Nat.le_refl 3)]⟩
      unfold lookL
      rw [hv, e1]; rfl
  | m + 1, i, K, y, x, hi, hl, hK => by
    have sub : ∀ (j : Nat) (v : Int) (st : ES), j ≤ K → st.1.length = 4 → st.1.take i = y.take i → 
        (eachF m (((i + 1 : Nat)) : Int) ((K : Int) - (j : Int)) (List.set st.1 i v, st.2)).2 = ((((allV (m + 1) (K - j)).map (v :: ·)).map (y.take i ++ ·)).foldl lookF st.2) ∧
        (eachF m (((i + 1 : Nat)) : Int) ((K : Int) - (j : Int)) (List.set st.1 i v, st.2)).1.length = 4 ∧ (eachF m (((i + 1 : Nat)) : Int) ((K : Int) - (j : Int)) (List.set st.1 i v, st.2)).1.take i = y.take i := fun j v st hj h1 h2 => by
      have ih := each_ok3 m (i + 1) (K - j) (List.set st.1 i v) st.2 (by omega) (by rw [List.length_set]; exact h1) (by omega)
      rw [show ((K - j : Nat) : Int) = (K : Int) - (j : Int) by omega] at ih
      refine ⟨?_, ih.l, ?_⟩
      · rw [ih.v, set_take (by omega), h2, lookL_at]
      · have := congrArg (List.take i) ih.t
        rw [List.take_take, List.take_take, Nat.min_eq_left (by omega), List.take_set_of_le (Nat.le_refl i), h2] at this
        exact this
    have go : ∀ j, j ≤ K + 1 → Ok4 m i K y x j (goF (eachF m (((i + 1 : Nat)) : Int)) (i : Int) (K : Int) (y, x) j) := by
      intro j
      induction j with
      | zero => intro _; exact ⟨rfl, hl, rfl⟩
      | succ j ih =>
        intro hj
        have ih := ih (by omega)
        generalize hst : goF (eachF m (((i + 1 : Nat)) : Int)) (i : Int) (K : Int) (y, x) j = st at ih
        have hsz := sz13_nat (j := j) (by omega)
        obtain ⟨p1, p2, p3⟩ := sub j (j : Int) st (by omega) ih.l ih.t
        rw [goF, hst]
        unfold negF posF
        rw [Int.toNat_natCast]
        by_cases h0 : 0 < (j : Int)
        · rw [if_pos h0]
          obtain ⟨q1, q2, q3⟩ := sub j (-(j : Int)) _ (by omega) p2 p3
          refine ⟨?_, q2, q3⟩
          rw [q1, p1, ih.v]
          unfold lookP
          rw [numsP_succ (by omega), List.flatMap_append, List.map_append, List.foldl_append]
          simp only [List.flatMap_cons, List.flatMap_nil, List.append_nil, List.map_append, List.foldl_append]
          rw [hsz.1, hsz.2]
        · rw [if_neg h0]
          refine ⟨?_, p2, p3⟩
          rw [p1, ih.v]
          have : j = 0 := by omega
          subst this
          unfold lookP
          rw [numsP_zero, List.flatMap_append, List.map_append, List.foldl_append]
          simp only [List.flatMap_cons, List.flatMap_nil, List.append_nil]
          rfl
    have g := go (K + 1) (Nat.le_refl _)
    have e : eachF (m + 1) (i : Int) (K : Int) (y, x) = goF (eachF m (((i + 1 : Nat)) : Int)) (i : Int) (K : Int) (y, x) (K + 1) := by
      show goF (eachF m ((i : Int) + 1)) (i : Int) (K : Int) (y, x) ((K : Int) + 1).toNat = _
      rw [show ((i : Int) + 1) = ((i + 1 : Nat) : Int) by omega, show ((K : Int) + 1).toNat = K + 1 by omega]
    rw [e]
    refine ⟨?_, g.l, g.t⟩
    rw [g.v]
    show _ = ((allV (m + 1 + 1) K).map (y.take i ++ ·)).foldl lookF x
    rw [allV]; rfl

theorem srch_fold (y c : List Int) (m : Int) {n : Int} (hn : 0 ≤ n ∧ n ≤ 12) : srch y c m n = (allV 4 n.toNat).foldl lookF (y, c, m, List.replicate 4 0, -1) := by
  have h := (each_ok3 3 0 n.toNat (List.replicate 4 0) (y, c, m, List.replicate 4 0, -1) rfl rfl (by omega)).v
  rw [show ((n.toNat : Nat) : Int) = n by omega] at h
  unfold srch
  refine h.trans ?_
  unfold lookL
  rw [List.take_zero]
  have : (fun z : List Int => [] ++ z) = id := rfl
  rw [this, List.map_id]

theorem farM_pos (y z : List Int) : ∀ n, 0 ≤ farM y z n
  | 0 => by simp [farM]
  | n + 1 => by
    have := farM_pos y z n
    rw [farM]; unfold absZ; omega
theorem betF_iff {x : S.SR} {z : List Int} : betF x z = true ↔ 2 ≤ dotZ z x.2.1 4 ∧ farM x.1 z 4 ≤ x.2.2.1 ∧ (x.2.2.2.2 < 0 ∨ farM x.1 z 4 < x.2.2.2.2) := by
  unfold betF
  rw [Bool.and_eq_true, Bool.and_eq_true, Bool.or_eq_true, decide_eq_true_eq, decide_eq_true_eq, decide_eq_true_eq, decide_eq_true_eq]

/-- What a search has found. -/
structure Fnd (y c : List Int) (m : Int) (L : List (List Int)) (x : S.SR) : Prop where
  ey : x.1 = y
  ec : x.2.1 = c
  em : x.2.2.1 = m
  no : x.2.2.2.2 < 0 → ∀ z ∈ L, ¬ (2 ≤ dotZ z c 4 ∧ farM y z 4 ≤ m)
  yes : ¬ x.2.2.2.2 < 0 → x.2.2.2.1 ∈ L ∧ 2 ≤ dotZ x.2.2.2.1 c 4 ∧ farM y x.2.2.2.1 4 ≤ m ∧ x.2.2.2.2 = farM y x.2.2.2.1 4 ∧ ∀ z ∈ L, 2 ≤ dotZ z c 4 → farM y z 4 ≤ m → farM y x.2.2.2.1 4 ≤ farM y z 4
theorem Fnd.step {y c : List Int} {m : Int} {L : List (List Int)} {x : S.SR} (h : Fnd y c m L x) (z : List Int) : Fnd y c m (L ++ [z]) (lookF x z) := by
  have hp := farM_pos y z 4
  unfold lookF
  cases hb : betF x z with
  | true =>
    rw [if_pos rfl]
    obtain ⟨b1, b2, b3⟩ := betF_iff.1 hb
    rw [h.ec] at b1
    rw [h.ey, h.em] at b2
    rw [h.ey] at b3
    refine ⟨h.ey, h.ec, h.em, fun hf => ?_, fun _ => ?_⟩
    · have hf : farM x.1 z 4 < 0 := hf
      rw [h.ey] at hf; omega
    · refine ⟨List.mem_append_right _ (List.mem_singleton.2 rfl), b1, b2, by show farM x.1 z 4 = _; rw [h.ey], fun w hw h1 h2 => ?_⟩
      show farM y z 4 ≤ _
      rcases List.mem_append.1 hw with hw | hw
      · by_cases hn : x.2.2.2.2 < 0
        · exact absurd ⟨h1, h2⟩ (h.no hn w hw)
        · obtain ⟨-, -, -, y4, y5⟩ := h.yes hn
          have := y5 w hw h1 h2
          omega
      · rw [List.mem_singleton.1 hw]; exact Int.le_refl _
  | false =>
    rw [if_neg (by simp)]
    have hnb : ¬ (2 ≤ dotZ z x.2.1 4 ∧ farM x.1 z 4 ≤ x.2.2.1 ∧ (x.2.2.2.2 < 0 ∨ farM x.1 z 4 < x.2.2.2.2)) := fun hh => by rw [betF_iff.2 hh] at hb; cases hb
    rw [h.ec, h.ey, h.em] at hnb
    refine ⟨h.ey, h.ec, h.em, fun hf w hw => ?_, fun hf => ?_⟩
    · rcases List.mem_append.1 hw with hw | hw
      · exact h.no hf w hw
      · rw [List.mem_singleton.1 hw]
        exact fun hh => hnb ⟨hh.1, hh.2, Or.inl hf⟩
    · obtain ⟨y1, y2, y3, y4, y5⟩ := h.yes hf
      refine ⟨List.mem_append_left _ y1, y2, y3, y4, fun w hw h1 h2 => ?_⟩
      rcases List.mem_append.1 hw with hw | hw
      · exact y5 w hw h1 h2
      · rw [List.mem_singleton.1 hw] at h1 h2 ⊢
        have : ¬ farM y z 4 < x.2.2.2.2 := fun hh => hnb ⟨h1, h2, Or.inr hh⟩
        omega
theorem Fnd.fold {y c : List Int} {m : Int} : ∀ (L M : List (List Int)) {x : S.SR}, Fnd y c m M x → Fnd y c m (M ++ L) (L.foldl lookF x)
  | [], M, x, h => by rw [List.append_nil]; exact h
  | z :: L, M, x, h => by
    have := Fnd.fold L (M ++ [z]) (h.step z)
    rw [List.append_assoc] at this
    exact this
theorem srch_found (y c : List Int) (m : Int) {n : Int} (hn : 0 ≤ n ∧ n ≤ 12) : Fnd y c m (allV 4 n.toNat) (srch y c m n) := by
  rw [srch_fold y c m hn]
  have h0 : Fnd y c m [] (y, c, m, List.replicate 4 0, -1) := ⟨rfl, rfl, rfl, fun _ z hz => (List.not_mem_nil hz).elim, fun h => absurd (show (-1 : Int) < 0 by decide) h⟩
  have := Fnd.fold (allV 4 n.toNat) [] h0
  rw [List.nil_append] at this
  exact this
end Go.SL.A

/- What is put into a frame, and that it is the document's. -/
namespace Go.SL.A
open Go Go.SL Go.SL.S
set_option maxRecDepth 100000

theorem four {y : List Int} (h : y.length = 4) : ∃ a b c d, y = [a, b, c, d] := by
  match y, h with
  | [a, b, c, d], _ => exact ⟨a, b, c, d, rfl⟩
theorem far4 (a b c d p q r t : Int) : farM [a, b, c, d] [p, q, r, t] 4 = absZ (a - p) + absZ (b - q) + absZ (c - r) + absZ (d - t) := by
  show 0 + absZ (a - p) + absZ (b - q) + absZ (c - r) + absZ (d - t) = _
  omega
theorem far_self {y : List Int} (h : y.length = 4) : farM y y 4 = 0 := by
  obtain ⟨a, b, c, d, rfl⟩ := four h
  rw [far4]; unfold absZ; omega
theorem far_zero {y z : List Int} (hy : y.length = 4) (hz : z.length = 4) (h : farM y z 4 ≤ 0) : z = y := by
  obtain ⟨a, b, c, d, rfl⟩ := four hy
  obtain ⟨p, q, r, t, rfl⟩ := four hz
  rw [far4] at h; unfold absZ at h
  rw [show p = a by omega, show q = b by omega, show r = c by omega, show t = d by omega]
theorem set_same {L : List (List Int)} {b : Nat} {y : List Int} (h : L.getD b (List.replicate 4 0) = y) (hb : b < L.length) : List.set L b y = L := by
  rw [List.getD_eq_getElem?_getD, List.getElem?_eq_getElem hb, Option.getD_some] at h
  rw [← h]; exact List.set_getElem_self hb
theorem pulses_sz {y : List Int} (hl : y.length = 4) (h : sumSz y ≤ 12) : pulsesF y = sumSz y := by
  unfold pulsesF; rw [if_neg (by omega)]; omega

structure PutOK (y d : List Int) (m : Int) (s : SHM) (b : Nat) (R : SHM × Bool) (y' : List Int) : Prop where
  sh : R.1 = (s.1, List.set s.2 b y')
  len : y'.length = 4
  sz : sumSz y' = sumSz y
  ok : R.2 = decide (2 ≤ dotZ y' d 4)
  no : R.2 = false → y' = y
  was : 2 ≤ dotZ y d 4 → y' = y
  near : farM y y' 4 ≤ m ∨ y' = y
  least : ∀ z, z.length = 4 → sumSz z = sumSz y → 2 ≤ dotZ z d 4 → farM y z 4 ≤ m → R.2 = true ∧ farM y y' 4 ≤ farM y z 4

theorem put_ok {y d : List Int} {m : Int} {s : SHM} {b : Nat} (hl : y.length = 4) (hq : sumSz y ≤ 12) (hrow : s.2.getD b (List.replicate 4 0) = y) (hb : b < s.2.length) : ∃ y', PutOK y d m s b (putR y d m (pulsesF y) s b) y' := by
  rw [pulses_sz hl hq]
  have hfit := sumSz_fit y
  have hset := set_same hrow hb
  have hself := far_self hl
  unfold putR
  cases hg : (decide (2 ≤ dotZ y d 4) || (decide (m = 0) || decide (12 < sumSz y))) with
  | true =>
    rw [if_pos rfl]
    refine ⟨y, by rw [hset], hl, rfl, rfl, fun _ => rfl, fun _ => rfl, Or.inr rfl, fun z h1 h2 h3 h4 => ?_⟩
    have hp := farM_pos y z 4
    refine ⟨?_, by omega⟩
    rw [Bool.or_eq_true, Bool.or_eq_true, decide_eq_true_eq, decide_eq_true_eq, decide_eq_true_eq] at hg
    rcases hg with hg | hg | hg
    · exact decide_eq_true hg
    · have := far_zero hl h1 (by omega)
      rw [this] at h3
      exact decide_eq_true h3
    · omega
  | false =>
    rw [if_neg (by simp)]
    rw [Bool.or_eq_false_iff, Bool.or_eq_false_iff, decide_eq_false_iff_not, decide_eq_false_iff_not, decide_eq_false_iff_not] at hg
    obtain ⟨g1, g2, g3⟩ := hg
    have F := srch_found y d m (n := sumSz y) ⟨hfit.1, hq⟩
    generalize srch y d m (sumSz y) = x at *
    have hmem := fun z => mem_allV (n := 4) (K := (sumSz y).toNat) (z := z) (by omega)
    have eK : (((sumSz y).toNat : Nat) : Int) = sumSz y := by omega
    by_cases hf : x.2.2.2.2 < 0
    · rw [if_pos hf]
      refine ⟨y, by rw [hset], hl, rfl, (decide_eq_false g1).symm, fun _ => rfl, fun _ => rfl, Or.inr rfl, fun z h1 h2 h3 h4 => ?_⟩
      exact absurd ⟨h3, h4⟩ (F.no hf z ((hmem z).2 ⟨h1, by omega⟩))
    · rw [if_neg hf]
      obtain ⟨y1, y2, y3, y4, y5⟩ := F.yes hf
      obtain ⟨l1, l2⟩ := (hmem _).1 y1
      refine ⟨x.2.2.2.1, rfl, l1, by omega, (decide_eq_true y2).symm, fun h => (by cases h), fun h => absurd h g1, Or.inl y3, fun z h1 h2 h3 h4 => ⟨rfl, ?_⟩⟩
      exact y5 z ((hmem z).2 ⟨h1, by omega⟩) h3 h4

structure RelM (y c : List Int) (m : Int) (x : S.SR) (r : RS) : Prop where
  ey : x.1 = y
  ec : x.2.1 = c
  em : x.2.2.1 = m
  no : r.1 = false → x.2.2.2.2 < 0 ∧ r.2.2 = y
  yes : r.1 = true → x.2.2.2.2 = r.2.1 ∧ 0 ≤ r.2.1 ∧ x.2.2.2.1 = r.2.2
theorem RelM.step {y c : List Int} {m g room : Int} (hg : ∀ z, farM y z 4 * g ≤ room ↔ farM y z 4 ≤ m) {x : S.SR} {r : RS} (h : RelM y c m x r) (z : List Int) : RelM y c m (lookF x z) (refOne y c g room r z) := by
  have hp := farM_pos y z 4
  have e : (decide (2 ≤ dotZ z c 4) && (decide (farM y z 4 * g ≤ room) && (!r.1 || decide (farM y z 4 < r.2.1)))) = betF x z := by
    unfold betF
    rw [h.ec, h.ey, h.em]
    have e2 : decide (farM y z 4 * g ≤ room) = decide (farM y z 4 ≤ m) := by
      by_cases hh : farM y z 4 ≤ m
      · rw [decide_eq_true hh, decide_eq_true ((hg z).2 hh)]
      · rw [decide_eq_false hh, decide_eq_false (fun h' => hh ((hg z).1 h'))]
    have e3 : (!r.1 || decide (farM y z 4 < r.2.1)) = (decide (x.2.2.2.2 < 0) || decide (farM y z 4 < x.2.2.2.2)) := by
      cases hr : r.1 with
      | false =>
        have := (h.no hr).1
        rw [decide_eq_true this]; rfl
      | true =>
        obtain ⟨h1, h2, -⟩ := h.yes hr
        rw [h1, decide_eq_false (show ¬ r.2.1 < 0 by omega)]; rfl
    rw [e2, e3]
  unfold refOne lookF
  rw [e]
  cases betF x z with
  | true =>
    rw [if_pos rfl, if_pos rfl]
    exact ⟨h.ey, h.ec, h.em, fun h' => (by cases h'), fun _ => ⟨by show farM x.1 z 4 = _; rw [h.ey], hp, rfl⟩⟩
  | false =>
    rw [if_neg (by simp), if_neg (by simp)]
    exact h
theorem RelM.fold {y c : List Int} {m g room : Int} (hg : ∀ z, farM y z 4 * g ≤ room ↔ farM y z 4 ≤ m) : ∀ (L : List (List Int)) {x : S.SR} {r : RS}, RelM y c m x r → RelM y c m (L.foldl lookF x) (L.foldl (refOne y c g room) r)
  | [], _, _, h => h
  | z :: L, _, _, h => RelM.fold hg L (h.step hg z)

end Go.SL.A

/- What is put into a frame, told of the whole shape. -/
namespace Go.SL.A
open Go Go.SL Go.SL.S
set_option maxRecDepth 100000

theorem okRow_of {y : List Int} (h : sumSz y ≤ 12) : okRow y = true := by
  refine List.all_eq_true.2 fun x hx => ?_
  obtain ⟨i, hi, e⟩ := List.getElem_of_mem hx
  have := sumSz_get h i
  rw [List.getD_eq_getElem?_getD, List.getElem?_eq_getElem hi, Option.getD_some, e] at this
  exact okN_iff.2 this
theorem held_set {Y : List (List Int)} {y : List Int} (h : heldB Y = true) (hy : okRow y = true) (b : Nat) : heldB (List.set Y b y) = true := by
  refine List.all_eq_true.2 fun x hx => ?_
  rcases List.mem_or_eq_of_mem_set hx with hx | rfl
  · exact List.all_eq_true.1 h x hx
  · exact hy
theorem row_set {Y : List (List Int)} {b : Nat} (hb : b < Y.length) (y : List Int) : (List.set Y b y).getD b (List.replicate 4 0) = y := by
  rw [List.getD_eq_getElem?_getD, List.getElem?_set_self hb]; rfl

structure PutW (k : List Int) (f : Int) (bit : Bool) (s : SHM) (y' : List Int) : Prop where
  o : PutOK (rowZ s.2 (bandK k f)) (chipB bit (chipsK k f)) (movF s.1 (bandK k f)) s (bandK k f).toNat (putM k f bit s) y'
  held : heldB (putM k f bit s).1.2 = true
  corr : corrF k f (putM k f bit s).1 = dotZ y' (chipsK k f) 4
  row : rowZ (putM k f bit s).1.2 (bandK k f) = y'
  l8 : (putM k f bit s).1.2.length = 8
  l4 : ∀ y ∈ (putM k f bit s).1.2, y.length = 4
  sd : (putM k f bit s).1.1 = s.1
theorem putM_ok (k : List Int) (f : Int) (bit : Bool) {s : SHM} (l8 : s.2.length = 8) (l4 : ∀ y ∈ s.2, y.length = 4) (hh : heldB s.2 = true) (hq : sumSz (rowZ s.2 (bandK k f)) ≤ 12) : ∃ y', PutW k f bit s y' := by
  have hb := band_fit k f
  have hyl : (rowZ s.2 (bandK k f)).length = 4 := l4 _ (getD_mem (by omega))
  have hP : putM k f bit s = putR (rowZ s.2 (bandK k f)) (chipB bit (chipsK k f)) (movF s.1 (bandK k f)) (pulsesF (rowZ s.2 (bandK k f))) s (bandK k f).toNat := by
    unfold putM; rw [if_pos hh]
  obtain ⟨y', o⟩ := put_ok (d := chipB bit (chipsK k f)) (m := movF s.1 (bandK k f)) (s := s) (b := (bandK k f).toNat) hyl hq rfl (by omega)
  rw [← hP] at o
  have e2 : (putM k f bit s).1.2 = List.set s.2 (bandK k f).toNat y' := by rw [o.sh]
  have hbl : (bandK k f).toNat < s.2.length := by omega
  have hrow : rowZ (putM k f bit s).1.2 (bandK k f) = y' := by rw [e2]; exact row_set hbl y'
  have hheld : heldB (putM k f bit s).1.2 = true := by rw [e2]; exact held_set hh (okRow_of (by rw [o.sz]; exact hq)) _
  refine ⟨y', o, hheld, ?_, hrow, by rw [e2, List.length_set]; exact l8, ?_, by rw [o.sh]⟩
  · unfold corrF; rw [if_pos hheld, hrow]
  · rw [e2]
    intro y hy
    rcases List.mem_or_eq_of_mem_set hy with hy | rfl
    · exact l4 y hy
    · exact o.len
end Go.SL.A

/- Statements of give: plain functions. -/
namespace Go.SL.S
open Go Go.SL
end Go.SL.S

/- Statements of give: plain laws. -/
namespace Go.SL.A
open Go Go.SL Go.SL.S

theorem iand15 (x : Int) : 0 ≤ iand .i64 x 15 ∧ iand .i64 x 15 ≤ 15 := by
  unfold iand
  have h : (BitVec.ofInt IntKind.i64.bits x &&& BitVec.ofInt IntKind.i64.bits 15).toNat ≤ 15 := by
    rw [BitVec.toNat_and]
    have : (BitVec.ofInt IntKind.i64.bits 15).toNat = 15 := by decide
    rw [this]
    exact Nat.and_le_right
  rw [w64 (by omega) (by omega)]
  omega

theorem held8_right (s : List Int) : rightF (held8 s) = true := by
  unfold rightF held8
  simp only [Bool.not_eq_true', List.any_eq_false, List.mem_map]
  rintro _ ⟨x, -, rfl⟩
  have := iand15 x
  unfold badF
  simp only [Bool.or_eq_true, decide_eq_true_eq]; omega

theorem held8_len {s : List Int} (h : s.length = 8) : (held8 s).length = 8 := by simp [held8, h]

theorem giveV_ok {s : List Int} {bits : Int} (h1 : rightF s = true) (h2 : 0 ≤ bits ∧ bits ≤ 1048576) : giveE s bits = 0 ∧ giveV s bits = giveF s bits := by
  have hE := giveE_no (s := s) (bits := bits) (by rw [h1]; simp; omega)
  exact ⟨hE, by unfold giveV; rw [if_pos hE]⟩

end Go.SL.A

/- Shapes that are right for a size; the document's example. -/
namespace Go.SL.A
open Go Go.SL Go.SL.S
set_option maxRecDepth 100000

theorem hwd45 {s : List Int × List (List Int)} {n : Int} (hw : Go.SL.allP (List.flatMap (fun a : AV => a.t.wf a.x) [⟨(.cons (.arr 8 (.int .i64)) (.last (.arr 8 (.arr 4 (.int .i64))))), s⟩, ⟨.int .i64, n⟩] ++ List.flatMap Blk.wf [])) : s.2.length = 8 ∧ ∀ y ∈ s.2, y.length = 4 := by
  simp only [List.flatMap_cons, List.flatMap_nil, Ty.wf, List.append_nil, List.cons_append, List.nil_append, Go.SL.allP] at hw
  exact ⟨hw.2.2.1, fun y hy => (hw.2.2.2.1 y hy).1⟩
theorem pured45 (s : List Int × List (List Int)) (n : Int) (hl : s.2.length = 8 ∧ ∀ y ∈ s.2, y.length = 4) : Pd45 s n := by
  unfold Pd45
  by_cases h0 : giveB n = 0
  · have e : packR s n = false := by unfold packR; rw [if_pos (Or.inl h0)]
    rw [decide_eq_true h0, cond_true, e]
    and_intros <;> simp
  · rw [decide_eq_false h0, cond_false]
    cases hr : rightF s.1 with
    | false =>
      have e : packR s n = false := by unfold packR; rw [if_pos (Or.inr hr)]
      rw [Bool.not_false, cond_true, e]
    | true =>
      have e : packR s n = (List.range 8).all fun b => decide (pulsesF (s.2.getD b (List.replicate 4 0)) = (giveV s.1 (giveB n)).getD b 0) := by
        unfold packR; rw [if_neg (by rw [hr]; simp [h0])]
      rw [Bool.not_true, cond_false, e]
      generalize giveV s.1 (giveB n) = k
      simp only [eq_self, true_and, and_true, Int.toNat_natCast]
      refine ⟨0, ⟨rfl, by omega, rfl⟩, fun i hi hw => ?_⟩
      clear hw
      obtain ⟨hi, ho⟩ := hi
      have ho : ((List.range i).all fun b => decide (pulsesF (s.2.getD b (List.replicate 4 0)) = k.getD b 0)) = true := ho
      by_cases h : (i : Int) < 8
      · have hyl := hl.2 _ (getD_mem (d := List.replicate 4 0) (f := s.2) (k := i) (by omega))
        rw [decide_eq_true h, cond_true]
        refine ⟨⟨by omega, by omega⟩, ⟨by decide, hyl.symm, ⟨by omega, by omega⟩, by omega⟩, ?_⟩
        cases hc : decide (pulsesF (s.2.getD i (List.replicate 4 0)) = k.getD i 0) with
        | true =>
          rw [Bool.not_true, cond_false]
          refine ⟨i + 1, step_i (by omega), ⟨by omega, ?_⟩, by omega⟩
          show ((List.range (i + 1)).all _) = true
          rw [List.range_succ, List.all_append, ho]
          simp
          exact of_decide_eq_true hc
        | false =>
          rw [Bool.not_false, cond_true]
          symm
          rw [List.all_eq_false]
          exact ⟨i, List.mem_range.2 (by omega), by rw [hc]; simp⟩
      · have : i = 8 := by omega
        subst this
        rw [decide_eq_false h, cond_false, ho]

theorem hwd26 {side l : List Int} {n : Int} (hw : Go.SL.allP (List.flatMap (fun a : AV => a.t.wf a.x) [⟨.arr 8 (.int .i64), side⟩, ⟨.arr 8 (.int .u32), l⟩, ⟨.int .i64, n⟩] ++ List.flatMap Blk.wf [])) : side.length = 8 ∧ l.length = 8 ∧ ∀ x ∈ l, 0 ≤ x ∧ x ≤ 4294967295 := by
  simp only [List.flatMap_cons, List.flatMap_nil, Ty.wf, List.append_nil, List.cons_append, List.nil_append, Go.SL.allP] at hw
  refine ⟨hw.1, hw.2.2.1, fun x hx => ?_⟩
  have h := hw.2.2.2.1 x hx
  have e1 : IntKind.u32.min = 0 := by decide
  have e2 : IntKind.u32.max = 4294967295 := by decide
  rw [e1, e2] at h; exact h
theorem count_pos {q : Int} (h : 0 ≤ q ∧ q ≤ 12) : 0 < countF 4 q := by
  unfold countF
  rw [if_pos (may_iff.2 (by omega))]
  have := cnt_pos 3 q.toNat
  exact this
theorem giveK (side : List Int) {n : Int} (hn : 12 ≤ n ∧ n ≤ 24) (b : Nat) (hb : b < 8) : 0 ≤ (refF (held8 side) (8 * n - 64)).getD b 0 ∧ (refF (held8 side) (8 * n - 64)).getD b 0 ≤ 12 := by
  rw [← give_eq (held8 side) (B := 8 * n - 64) (by omega)]
  obtain ⟨_, _, _, _, h⟩ := give_end (held8 side) (B := 8 * n - 64) (by omega)
  exact (h b hb).1
theorem rem_fit {x c : Int} (hx : 0 ≤ x) (hc : 0 < c) : 0 ≤ x.tmod c ∧ x.tmod c < c := by
  obtain ⟨-, -, h1, h2, -⟩ := tdm x hc
  exact ⟨(h2 hx).1, h1⟩
theorem shRow_ok {k l : List Int} {b : Nat} (hk : 0 ≤ k.getD b 0 ∧ k.getD b 0 ≤ 12) (hl : 0 ≤ l.getD b 0) : (shRow k l b).length = 4 ∧ sumSz (shRow k l b) = k.getD b 0 := by
  have hc := count_pos hk
  have hr := rem_fit hl hc
  obtain ⟨-, h1, h2, -⟩ := vec_ok (n := 4) (k := k.getD b 0) (by omega) hr.1 hr.2
  unfold shRow
  exact ⟨by omega, h2⟩
theorem l_fit {l : List Int} (h : ∀ x ∈ l, 0 ≤ x ∧ x ≤ 4294967295) (b : Nat) : 0 ≤ l.getD b 0 ∧ l.getD b 0 ≤ 4294967295 := by
  by_cases hb : b < l.length
  · exact h _ (getD_mem hb)
  · rw [List.getD_eq_getElem?_getD, List.getElem?_eq_none (by omega)]; simp
theorem rows_at (k l : List Int) {b : Nat} (hb : b < 8) : (shRows k l)[b]? = some (shRow k l b) := by
  unfold shRows; rw [List.getElem?_map, List.getElem?_range hb]; rfl
theorem rows_len (k l : List Int) : (shRows k l).length = 8 := by unfold shRows; rw [List.length_map, List.length_range]
theorem pured26 (side l : List Int) (n : Int) (hn : 12 ≤ n ∧ n ≤ 24) (hw : side.length = 8 ∧ l.length = 8 ∧ ∀ x ∈ l, 0 ≤ x ∧ x ≤ 4294967295) : Pd26 side l n := by
  obtain ⟨hs, hl, hx⟩ := hw
  unfold Pd26
  simp only [eq_self, true_and, and_true, Nat.zero_add]
  have hwr : IntKind.i64.wrap (IntKind.i64.wrap (8 * n) - 64) = 8 * n - 64 := by rw [w64 (n := 8 * n) (by omega) (by omega), w64 (by omega) (by omega)]
  have h8 := held8_len hs
  have hgk := fun b hb => giveK side hn b hb
  refine ⟨0, ⟨⟨rfl, rfl⟩, by omega⟩, fun i hi hw => ?_⟩
  clear hw
  by_cases h : (i : Int) < 8
  · have hv : (held8 side)[i]? = some (iand .i64 (side.getD i 0) 15) := by
      unfold held8
      rw [List.getElem?_map, List.getD_eq_getElem?_getD, List.getElem?_eq_getElem (by omega)]; rfl
    rw [decide_eq_true h, cond_true, Int.toNat_natCast]
    exact ⟨⟨⟨by omega, by omega⟩, by omega, ⟨by omega, by omega⟩, by omega⟩, i + 1, ⟨step_i (by omega), set_step (by omega) (by rw [List.length_replicate]; omega) hv⟩, by omega, by omega⟩
  have : i = 8 := by omega
  subst this
  have e8 : List.take 8 (held8 side) ++ List.drop 8 (List.replicate 8 0) = held8 side := by
    rw [List.take_of_length_le (by omega), List.drop_eq_nil_of_le (by rw [List.length_replicate]; omega), List.append_nil]
  rw [decide_eq_false h, cond_false]
  have hS : shape19 side l n = (held8 side, shRows (refF (held8 side) (8 * n - 64)) l) := rfl
  generalize shape19 side l n = R at *
  subst hS
  simp only [e8, hwr]
  have hr := held8_right side
  generalize refF (held8 side) (8 * n - 64) = k at *
  generalize held8 side = g at *
  refine ⟨⟨hr, by omega, by omega⟩, 0, ⟨⟨rfl, rfl⟩, by omega⟩, fun b hb hw => ?_⟩
  clear hw
  have hrl := rows_len k l
  by_cases hb8 : (b : Int) < 8
  · have hk := hgk b (by omega)
    have hc := count_pos hk
    have hlb := l_fit hx b
    have hrow : vecF 4 (k.getD b 0) (IntKind.i64.wrap (l.getD b 0) |>.tmod (countF 4 (k.getD b 0))) = shRow k l b := by
      rw [w64 (by omega) (by omega)]; rfl
    have hrk := shRow_ok (l := l) hk hlb.1
    have hat := rows_at k l (b := b) (by omega)
    rw [decide_eq_true hb8, cond_true]
    simp only [Int.toNat_natCast]
    refine ⟨⟨⟨by omega, by omega⟩, by omega⟩, ?_⟩
    rw [decide_eq_false (show ¬ countF 4 (k.getD b 0) = 0 by omega), cond_false]
    simp only [hrow]
    generalize shRow k l b = F at *
    generalize hG : List.take b (shRows k l) ++ List.drop b (List.replicate 8 (List.replicate 4 0)) = G at *
    have hGl : G.length = 8 := by
      rw [← hG, List.length_append, List.length_take, List.length_drop, List.length_replicate]; omega
    have hGb : G.getD b (List.replicate 4 0) = List.replicate 4 0 := by
      rw [← hG, List.getD_eq_getElem?_getD, List.getElem?_append_right (by rw [List.length_take]; omega), List.length_take, Nat.min_eq_left (by omega), Nat.sub_self, List.getElem?_drop, Nat.add_zero, List.getElem?_replicate, if_pos (by omega)]; rfl
    refine ⟨⟨⟨by omega, by omega⟩, by omega, ⟨by omega, by omega⟩, by omega, by omega⟩, 0, ⟨⟨rfl, ?_⟩, by omega⟩, fun j hj hw => ?_⟩
    · exact (set_same hGb (by omega)).symm
    clear hw
    intro b0 hb0
    refine ⟨⟨id, id, id⟩, ?_⟩
    have hlen : decide ((F.length : Int) = 4) = true := decide_eq_true (by omega)
    rw [hlen, ← hb0]
    by_cases hj4 : (j : Int) < 4
    · rw [decide_eq_true hj4, cond_true, cond_true, List.set_set, row_set (by omega)]
      refine ⟨⟨⟨by omega, by omega⟩, by omega, ⟨by omega, by omega⟩, ⟨by omega, by omega⟩, by omega, by omega⟩, j + 1, ⟨step_i (by omega), ?_⟩, by omega, by omega⟩
      have hv : F[j]? = some (F.getD j 0) := by
        rw [List.getD_eq_getElem?_getD, List.getElem?_eq_getElem (by omega)]; rfl
      rw [set_step (by omega) (by rw [List.length_replicate]; omega) hv]
    · have : j = 4 := by omega
      subst this
      have e4 : List.take 4 F ++ List.drop 4 (List.replicate 4 0) = F := by
        rw [List.take_of_length_le (by omega), List.drop_eq_nil_of_le (by rw [List.length_replicate]; omega), List.append_nil]
      rw [decide_eq_false hj4, cond_false, cond_false, e4, ← hG]
      exact ⟨b + 1, ⟨step_i (by omega), set_step (by omega) (by rw [List.length_replicate]; omega) hat⟩, by omega, by omega⟩
  · have : b = 8 := by omega
    subst this
    rw [decide_eq_false hb8, cond_false]
    refine ⟨trivial, ?_⟩
    rw [List.take_of_length_le (by omega), List.drop_eq_nil_of_le (by rw [List.length_replicate]; omega), List.append_nil]

end Go.SL.A

/- Functions do what they are held to do. -/
namespace Go.SL.A
open Go Go.SL Go.SL.S
theorem sndd45 : Sound Go.Proofs.Tryd.prog Gd45 := sndd17.add ⟨_, Go.Proofs.Tryd.func33, by kernel_rfl, by kernel_rfl⟩ (by
  intro args ins out h hp
  unfold spd45 at h
  split at h
  · rename_i s n
    cases h
    exact vcFun_ok (C := Cd45) good sndd17 Meth.none mix Go.Proofs.Tryd.func33 (annd45 s n) (fun hw => by rw [← vcd45 s n]; exact pured45 s n (hwd45 hw))
  · cases h)

theorem sndd26 : Sound Go.Proofs.Tryd.prog Gd26 := sndd45.add ⟨_, Go.Proofs.Tryd.func13, by kernel_rfl, by kernel_rfl⟩ (by
  intro args ins out h hp
  unfold spd26 at h
  split at h
  · rename_i side l n
    cases h
    exact vcFun_ok (C := Cd26) good sndd45 Meth.none mix Go.Proofs.Tryd.func13 (annd26 side l n) (fun hw => by rw [← vcd26 side l n]; exact pured26 side l n hp (hwd26 hw))
  · cases h)

end Go.SL.A

/- Tags: plain functions. -/
namespace Go.SL.S
open Go Go.SL
noncomputable section
def sgnI (n : Int) : Int := max (min n 1) (-1)
/-- Pulses with one more at a place. -/
def gainL (x : List Int) (j : Nat) : List (List Int) :=
  if 0 < x.getD j 0 then [List.set x j (x.getD j 0 + 1)] else if x.getD j 0 < 0 then [List.set x j (x.getD j 0 - 1)] else [List.set x j (x.getD j 0 + 1), List.set x j (x.getD j 0 - 1)]
def lessI (y : List Int) (i : Nat) : List Int := List.set y i (y.getD i 0 - sgnI (y.getD i 0))
def movJ (y : List Int) (i : Nat) : Nat → List (List Int)
  | 0 => []
  | j + 1 => movJ y i j ++ if j = i then [] else gainL (lessI y i) j
def movI (y : List Int) : Nat → List (List Int)
  | 0 => []
  | i + 1 => movI y i ++ if y.getD i 0 = 0 then [] else movJ y i 4
/-- Pulses of which one went to another place. -/
def movL (y : List Int) : List (List Int) := movI y 4
def nearStep (good : List Int → Bool) (st : List Int × Int) (z : List Int) : List Int × Int :=
  if (decide ((indexF z).2 = 0) && (good z && (decide (st.2 < 0) || decide ((indexF z).1 < st.2)))) = true then (z, (indexF z).1) else st
def nearTo (good : List Int → Bool) (y : List Int) : Nat → List Int × Int
  | 0 => (y, -1)
  | n + 1 => nearStep good (nearTo good y n) ((movL y).getD n (List.replicate 4 0))
def nearF (good : List Int → Bool) (y : List Int) : List Int := (nearTo good y (movL y).length).1
/-- The sum of what a subset has, and its parity. -/
def oddN (y : List Int) (p : List Bool) : Nat → Int
  | 0 => 0
  | n + 1 => oddN y p n + if p.getD n false then absZ (y.getD n 0) else 0
def oddF (y : List Int) (p : List Bool) : Int := oddN y p 4 % 2
def sub0 (x : Int) : List Bool := (List.range 4).map fun i => bitX x i
def subX (x : Int) : List Bool := if sub0 x = List.replicate 4 false then List.set (sub0 x) 0 true else sub0 x
/-- A subset of a band's coefficients. -/
theorem subK_ex : ∃ g : List Int → Int → Int → List Bool, ∀ k f b, g k f b = subX (numK k 115 (f % 1016 * 8 + b)) := ⟨fun k f b => subX (numK k 115 (f % 1016 * 8 + b)), fun _ _ _ => rfl⟩
def subK : List Int → Int → Int → List Bool := Classical.choose subK_ex
theorem subK_eq (k : List Int) (f b : Int) : subK k f b = subX (numK k 115 (f % 1016 * 8 + b)) := Classical.choose_spec subK_ex k f b
def parK (k : List Int) (f b : Int) (y : List Int) : Int × Bool :=
  if (decide (b < 0) || (decide (8 ≤ b) || decide (12 < pulsesF y))) = true then (0, false)
  else (oddF y (subK k f b), decide (0 < pulsesF y) && !decide (subK k f b = List.replicate 4 true))
/-- The bands that aren't a frame's own. -/
def bandsK (k : List Int) (f : Int) : List Int := (iotaI 8).filter fun b => decide (b ≠ bandK k f)
def bytesY (y : List Int) : List Int := y.map fun n => (n + 128) % 256
def ownB (k : List Int) (f : Int) (s : SHM) : List Int :=
  111 :: (f / 256 % 256) :: (f % 256) :: (s.1.map (· % 256) ++ (bytesY (rowZ s.2 (bandK k f)) ++ bytesY (rowZ s.2 ((bandsK k f).getD 6 0))))
def ownK (k : List Int) (f : Int) (s : SHM) : Int := sipF k (bytesOf (ownB k f s)) % 8
def aheadK (k : List Int) (a : ByteArray) : Int := sipF k (ByteArray.append (bytesOf [97]) a) % 8
/-- Which tag a wish's band is to tell. -/
def wishBit (own back : Int) (i : Nat) : Int := if i < 3 then own / 2 ^ i % 2 else back / 2 ^ (i - 3) % 2
/-- A band's pulses as they are to be. -/
def putY (k : List Int) (f : Int) (side : List Int) (b bit : Int) (y : List Int) : List Int :=
  if (parK k f b y).2 = true ∧ (parK k f b y).1 ≠ bit then nearF (fun z => decide ((parK k f b z).1 = bit) && mayV side b y z) y else y
def tagT (k : List Int) (f : Int) (own back : Int) (s : SHM) : Nat → SHM
  | 0 => s
  | i + 1 =>
    let t := tagT k f own back s i
    let b := (bandsK k f).getD i 0
    (t.1, List.set t.2 b.toNat (putY k f t.1 b (wishBit own back i) (rowZ t.2 b)))
def rightT (s : SHM) : Bool := s.2.all (fun y => decide (pulsesF y ≤ 12)) && rightF s.1
/-- A shape with its tags. -/
def putG (k : List Int) (f : Int) (s : SHM) (a : ByteArray) : SHM := if rightT s then tagT k f (ownK k f s) (aheadK k a) s 6 else s
/-- How many bands can tell, and how many tell another thing. -/
def canN (k : List Int) (f : Int) (s : SHM) (i : Nat) : Int := if (parK k f ((bandsK k f).getD i 0) (rowZ s.2 ((bandsK k f).getD i 0))).2 then 1 else 0
def badN (k : List Int) (f : Int) (s : SHM) (own back : Int) (i : Nat) : Int :=
  if (parK k f ((bandsK k f).getD i 0) (rowZ s.2 ((bandsK k f).getD i 0))).2 = true ∧ (parK k f ((bandsK k f).getD i 0) (rowZ s.2 ((bandsK k f).getD i 0))).1 ≠ wishBit own back i then 1 else 0
/-- Rows of which the first bands' are another shape's. -/
def mixR (l : List Int) (S T : List (List Int)) : Nat → List (List Int)
  | 0 => S
  | i + 1 => List.set (mixR l S T i) (l.getD i 0).toNat (rowZ T (l.getD i 0))
def upSum (f : Nat → Int) (a : Nat) : Nat → Int
  | 0 => 0
  | n + 1 => upSum f a n + f (a + n)
def anyB (p : List Bool) : Bool := p.any fun x => x
def bandsTo (o : Int) (i : Nat) : List Int := (iotaI i).filter fun b => decide (b ≠ o)
/-- The wishes that have been made. -/
def wishTo (k : List Int) (f own back : Int) (i : Nat) : List (Int × Int) := (List.range 6).map fun j => if j < i ∨ (3 ≤ j ∧ j < 3 + i) then ((bandsK k f).getD j 0, wishBit own back j) else (0, 0)
/-- May a band's pulses become others, that tell what is to be told. -/
def goodT (k : List Int) (f : Int) (side : List Int) (b bit : Int) (y z : List Int) : Bool := decide ((parK k f b z).1 = bit) && mayV side b y z
def askTo (k : List Int) (f : Int) (s : SHM) (own back : Int) (i : Nat) : List (List Int) :=
  [[upSum (canN k f s) 0 (min i 3), upSum (badN k f s own back) 0 (min i 3)], [upSum (canN k f s) 3 (i - 3), upSum (badN k f s own back) 3 (i - 3)]]
def askT (k : List Int) (f : Int) (s : SHM) (own back : Int) : Int × Int × Int × Int :=
  (upSum (canN k f s) 0 3, upSum (canN k f s) 3 3, upSum (badN k f s own back) 0 3, upSum (badN k f s own back) 3 3)
end
end Go.SL.S

/- A frame's bit: plain laws. -/
namespace Go.SL.A
open Go Go.SL Go.SL.S
set_option maxRecDepth 100000

structure Rt (s : SHM) : Prop where
  l1 : s.1.length = 8
  l8 : s.2.length = 8
  l4 : ∀ y ∈ s.2, y.length = 4
  held : heldB s.2 = true
  sz : ∀ b : Int, 0 ≤ b ∧ b < 8 → sumSz (rowZ s.2 b) ≤ 12
  rt : rightF s.1 = true
theorem rows_row (k l : List Int) {b : Int} (hb : 0 ≤ b ∧ b < 8) : rowZ (shRows k l) b = shRow k l b.toNat := by
  unfold rowZ
  rw [List.getD_eq_getElem?_getD, rows_at k l (by omega)]; rfl
theorem shape_rt {side l : List Int} {n : Int} (hs : side.length = 8) (hx : ∀ x ∈ l, 0 ≤ x ∧ x ≤ 4294967295) (hn : 12 ≤ n ∧ n ≤ 24) : Rt (shape19 side l n) := by
  have hk := fun b hb => giveK side hn b hb
  have ho := fun b (hb : b < 8) => shRow_ok (hk b hb) (l_fit hx b).1
  unfold shape19
  generalize refF (held8 side) (8 * n - 64) = k at *
  refine ⟨held8_len hs, rows_len k l, fun y hy => ?_, List.all_eq_true.2 fun y hy => ?_, fun b hb => ?_, held8_right side⟩
  · obtain ⟨b, hb, rfl⟩ := List.mem_map.1 hy
    exact (ho b (List.mem_range.1 hb)).1
  · obtain ⟨b, hb, rfl⟩ := List.mem_map.1 hy
    have h8 := List.mem_range.1 hb
    refine okRow_of ?_
    rw [(ho b h8).2]; exact (hk b h8).2
  · show sumSz (rowZ (shRows k l) b) ≤ 12
    rw [rows_row k l hb, (ho b.toNat (by omega)).2]; exact (hk b.toNat (by omega)).2
theorem Rt.put {k : List Int} {f : Int} {bit : Bool} {s : SHM} (h : Rt s) : ∃ y', PutW k f bit s y' ∧ Rt (putM k f bit s).1 := by
  have hb := band_fit k f
  obtain ⟨y', W⟩ := putM_ok k f bit h.l8 h.l4 h.held (h.sz _ hb)
  refine ⟨y', W, by rw [W.sd]; exact h.l1, W.l8, W.l4, W.held, fun b hb8 => ?_, by rw [W.sd]; exact h.rt⟩
  have e2 : (putM k f bit s).1.2 = List.set s.2 (bandK k f).toNat y' := by rw [W.o.sh]
  by_cases e : b = bandK k f
  · rw [e, W.row, W.o.sz]; exact h.sz _ hb
  · rw [e2]
    unfold rowZ
    rw [List.getD_eq_getElem?_getD, List.getElem?_set_ne (by omega), ← List.getD_eq_getElem?_getD]
    exact h.sz b hb8

theorem size_fit {n : Int} (h : 0 ≤ n ∧ n ≤ 255) : IntKind.i64.wrap (12 + Int.tmod (IntKind.i64.wrap n) 13) = 12 + Int.tmod n 13 ∧ 12 ≤ 12 + Int.tmod n 13 ∧ 12 + Int.tmod n 13 ≤ 24 := by
  have ⟨_, _, h2, h3, _⟩ := tdm n (k := 13) (by omega)
  have h3 := (h3 h.1).1
  rw [w64 (n := n) (by omega) (by omega), w64 (by omega) (by omega)]
  omega
end Go.SL.A

/- Pulses of which one went to another place: plain laws. -/
namespace Go.SL.A
open Go Go.SL Go.SL.S
set_option maxRecDepth 100000

theorem sum_two (F : Nat → Int → Int) {y : List Int} (hl : y.length = 4) {i j : Nat} (hi : i < 4) (hj : j < 4) (hij : i ≠ j) (v u : Int) :
    F 0 ((List.set (List.set y i v) j u).getD 0 0) + F 1 ((List.set (List.set y i v) j u).getD 1 0) + F 2 ((List.set (List.set y i v) j u).getD 2 0) + F 3 ((List.set (List.set y i v) j u).getD 3 0) =
    F 0 (y.getD 0 0) + F 1 (y.getD 1 0) + F 2 (y.getD 2 0) + F 3 (y.getD 3 0) + (F i v - F i (y.getD i 0)) + (F j u - F j (y.getD j 0)) := by
  obtain ⟨a, b, c, d, rfl⟩ := four hl
  have h1 : i = 0 ∨ i = 1 ∨ i = 2 ∨ i = 3 := by omega
  have h2 : j = 0 ∨ j = 1 ∨ j = 2 ∨ j = 3 := by omega
  rcases h1 with rfl | rfl | rfl | rfl <;> rcases h2 with rfl | rfl | rfl | rfl <;> first | exact absurd rfl hij | (simp only [List.set_cons_zero, List.set_cons_succ, List.getD_cons_zero, List.getD_cons_succ]; omega)

theorem sum4sz {y : List Int} (hl : y.length = 4) : sumSz y = sz13 (y.getD 0 0) + sz13 (y.getD 1 0) + sz13 (y.getD 2 0) + sz13 (y.getD 3 0) := by
  obtain ⟨a, b, c, d, rfl⟩ := four hl
  show sz13 a + (sz13 b + (sz13 c + (sz13 d + 0))) = _
  simp only [List.getD_cons_zero, List.getD_cons_succ]; omega
theorem odd_sum (y : List Int) (p : List Bool) : oddN y p 4 = (if p.getD 0 false then absZ (y.getD 0 0) else 0) + (if p.getD 1 false then absZ (y.getD 1 0) else 0) + (if p.getD 2 false then absZ (y.getD 2 0) else 0) + (if p.getD 3 false then absZ (y.getD 3 0) else 0) := by
  simp only [oddN]; omega
theorem far_sum (y z : List Int) : farM y z 4 = absZ (y.getD 0 0 - z.getD 0 0) + absZ (y.getD 1 0 - z.getD 1 0) + absZ (y.getD 2 0 - z.getD 2 0) + absZ (y.getD 3 0 - z.getD 3 0) := by
  simp only [farM]; omega

/-- One pulse less at i, one more at j. -/
structure Mov (y : List Int) (i j : Nat) (z : List Int) : Prop where
  hi : i < 4
  hj : j < 4
  ne : i ≠ j
  nz : y.getD i 0 ≠ 0
  eq : ∃ u, z = List.set (List.set y i (y.getD i 0 - sgnI (y.getD i 0))) j u ∧ absZ u = absZ (y.getD j 0) + 1 ∧ absZ (y.getD j 0 - u) = 1

theorem sgn_less {n : Int} (h : n ≠ 0) : absZ (n - sgnI n) = absZ n - 1 ∧ absZ (n - (n - sgnI n)) = 1 := by
  unfold absZ sgnI; omega
theorem gain_mem {x : List Int} {j : Nat} {z : List Int} (h : z ∈ gainL x j) : ∃ u, z = List.set x j u ∧ absZ u = absZ (x.getD j 0) + 1 ∧ absZ (x.getD j 0 - u) = 1 := by
  unfold gainL at h
  split at h
  · rw [List.mem_singleton] at h
    exact ⟨_, h, by unfold absZ; omega, by unfold absZ; omega⟩
  · split at h
    · rw [List.mem_singleton] at h
      exact ⟨_, h, by unfold absZ; omega, by unfold absZ; omega⟩
    · rcases List.mem_cons.1 h with h | h
      · exact ⟨_, h, by unfold absZ; omega, by unfold absZ; omega⟩
      · rw [List.mem_singleton] at h
        exact ⟨_, h, by unfold absZ; omega, by unfold absZ; omega⟩
theorem gain_some (x : List Int) (j : Nat) : ∃ z, z ∈ gainL x j := by
  unfold gainL
  split
  · exact ⟨_, List.mem_cons_self⟩
  · split
    · exact ⟨_, List.mem_cons_self⟩
    · exact ⟨_, List.mem_cons_self⟩
theorem movJ_mem {y : List Int} {i : Nat} {z : List Int} : ∀ {n : Nat}, z ∈ movJ y i n ↔ ∃ j, j < n ∧ j ≠ i ∧ z ∈ gainL (lessI y i) j
  | 0 => by simp [movJ]
  | n + 1 => by
    rw [movJ, List.mem_append, movJ_mem]
    constructor
    · rintro (⟨j, h1, h2, h3⟩ | h)
      · exact ⟨j, by omega, h2, h3⟩
      · split at h
        · cases h
        · rename_i hn; exact ⟨n, by omega, hn, h⟩
    · rintro ⟨j, h1, h2, h3⟩
      by_cases e : j = n
      · subst e; right; rw [if_neg h2]; exact h3
      · left; exact ⟨j, by omega, h2, h3⟩
theorem movI_mem {y : List Int} {z : List Int} : ∀ {n : Nat}, z ∈ movI y n ↔ ∃ i, i < n ∧ y.getD i 0 ≠ 0 ∧ z ∈ movJ y i 4
  | 0 => by simp [movI]
  | n + 1 => by
    rw [movI, List.mem_append, movI_mem]
    constructor
    · rintro (⟨j, h1, h2, h3⟩ | h)
      · exact ⟨j, by omega, h2, h3⟩
      · split at h
        · cases h
        · rename_i hn; exact ⟨n, by omega, hn, h⟩
    · rintro ⟨j, h1, h2, h3⟩
      by_cases e : j = n
      · subst e; right; rw [if_neg h2]; exact h3
      · left; exact ⟨j, by omega, h2, h3⟩
theorem mov_mem {y z : List Int} (h : z ∈ movL y) : ∃ i j, Mov y i j z := by
  obtain ⟨i, hi, hn, h⟩ := movI_mem.1 h
  obtain ⟨j, hj, hne, h⟩ := movJ_mem.1 h
  obtain ⟨u, h1, h2, h3⟩ := gain_mem h
  have e : (lessI y i).getD j 0 = y.getD j 0 := by
    unfold lessI
    rw [List.getD_eq_getElem?_getD, List.getElem?_set_ne (fun e => hne e.symm), ← List.getD_eq_getElem?_getD]
  rw [e] at h2 h3
  exact ⟨i, j, hi, hj, fun e => hne e.symm, hn, u, h1, h2, h3⟩
theorem mov_some {y : List Int} {i j : Nat} (hi : i < 4) (hj : j < 4) (hne : i ≠ j) (hn : y.getD i 0 ≠ 0) : ∃ z, z ∈ movL y ∧ Mov y i j z := by
  obtain ⟨z, h⟩ := gain_some (lessI y i) j
  obtain ⟨u, h1, h2, h3⟩ := gain_mem h
  have e : (lessI y i).getD j 0 = y.getD j 0 := by
    unfold lessI
    rw [List.getD_eq_getElem?_getD, List.getElem?_set_ne hne, ← List.getD_eq_getElem?_getD]
  rw [e] at h2 h3
  exact ⟨z, movI_mem.2 ⟨i, hi, hn, movJ_mem.2 ⟨j, hj, fun e => hne e.symm, h⟩⟩, hi, hj, hne, hn, u, h1, h2, h3⟩

theorem szAbs {x : Int} (h : absZ x ≤ 12) : sz13 x = absZ x := by
  unfold sz13 absZ at *; rw [if_neg (by omega)]
theorem absSz {x : Int} (h : sz13 x ≤ 12) : absZ x = sz13 x := by
  have := sz13_le12 h; unfold absZ; have := sz13_pos x; omega

theorem Mov.len {y z : List Int} {i j : Nat} (h : Mov y i j z) (hl : y.length = 4) : z.length = 4 := by
  obtain ⟨u, rfl, -, -⟩ := h.eq
  rw [List.length_set, List.length_set]; exact hl
theorem Mov.far {y z : List Int} {i j : Nat} (h : Mov y i j z) (hl : y.length = 4) : farM y z 4 = 2 := by
  obtain ⟨u, rfl, h2, h3⟩ := h.eq
  rw [far_sum]
  have k := sum_two (fun p x => absZ (y.getD p 0 - x)) hl h.hi h.hj h.ne (y.getD i 0 - sgnI (y.getD i 0)) u
  try simp only at k
  rw [k, (sgn_less h.nz).2, h3]
  simp only [Int.sub_self]
  unfold absZ; omega
theorem part_le {y : List Int} (hl : y.length = 4) {i : Nat} (hi : i < 4) : 0 ≤ sz13 (y.getD i 0) ∧ sz13 (y.getD i 0) ≤ sumSz y := by
  rw [sum4sz hl]
  have h1 := sz13_pos (y.getD 0 0)
  have h2 := sz13_pos (y.getD 1 0)
  have h3 := sz13_pos (y.getD 2 0)
  have h4 := sz13_pos (y.getD 3 0)
  have h1 : i = 0 ∨ i = 1 ∨ i = 2 ∨ i = 3 := by omega
  rcases h1 with rfl | rfl | rfl | rfl <;> omega
theorem part_two {y : List Int} (hl : y.length = 4) {i j : Nat} (hi : i < 4) (hj : j < 4) (hne : i ≠ j) : sz13 (y.getD i 0) + sz13 (y.getD j 0) ≤ sumSz y := by
  rw [sum4sz hl]
  have h1 := sz13_pos (y.getD 0 0)
  have h2 := sz13_pos (y.getD 1 0)
  have h3 := sz13_pos (y.getD 2 0)
  have h4 := sz13_pos (y.getD 3 0)
  have h1 : i = 0 ∨ i = 1 ∨ i = 2 ∨ i = 3 := by omega
  have h2 : j = 0 ∨ j = 1 ∨ j = 2 ∨ j = 3 := by omega
  rcases h1 with rfl | rfl | rfl | rfl <;> rcases h2 with rfl | rfl | rfl | rfl <;> first | exact absurd rfl hne | omega
theorem Mov.sz {y z : List Int} {i j : Nat} (h : Mov y i j z) (hl : y.length = 4) (hq : sumSz y ≤ 12) : sumSz z = sumSz y := by
  have hzl := h.len hl
  have p1 := part_le hl h.hi
  have p2 := part_le hl h.hj
  have p3 := part_two hl h.hi h.hj h.ne
  have a1 := absSz (x := y.getD i 0) (by omega)
  have a2 := absSz (x := y.getD j 0) (by omega)
  have hz : 0 < absZ (y.getD i 0) := by have := h.nz; unfold absZ; omega
  have hs := (sgn_less h.nz).1
  obtain ⟨u, e, h2, h3⟩ := h.eq
  have s1 := szAbs (x := y.getD i 0 - sgnI (y.getD i 0)) (by omega)
  have s2 := szAbs (x := u) (by omega)
  have k := sum_two (fun _ x => sz13 x) hl h.hi h.hj h.ne (y.getD i 0 - sgnI (y.getD i 0)) u
  try simp only at k
  rw [sum4sz hzl, e, k, sum4sz hl]
  omega
theorem Mov.odd {y z : List Int} {i j : Nat} (h : Mov y i j z) (hl : y.length = 4) (p : List Bool) : oddN z p 4 = oddN y p 4 - (if p.getD i false then 1 else 0) + (if p.getD j false then 1 else 0) := by
  obtain ⟨u, e, h2, h3⟩ := h.eq
  have hs := (sgn_less h.nz).1
  have k := sum_two (fun q x => if p.getD q false then absZ x else 0) hl h.hi h.hj h.ne (y.getD i 0 - sgnI (y.getD i 0)) u
  try simp only at k
  rw [odd_sum, odd_sum, e, k]
  cases p.getD i false <;> cases p.getD j false <;> simp only [Bool.false_eq_true, if_true, if_false] <;> omega

theorem odd_fit (y : List Int) (p : List Bool) : ∀ n, 0 ≤ oddN y p n
  | 0 => Int.le_refl 0
  | n + 1 => by
    have := odd_fit y p n
    rw [oddN]
    have : 0 ≤ absZ (y.getD n 0) := by unfold absZ; omega
    split <;> omega
/-- Where a subset is neither all nor nothing, one pulse can go so that the parity is another one. -/
theorem mov_flip {y : List Int} (hl : y.length = 4) (hy : 0 < sumSz y) {p : List Bool} {a b : Nat} (ha : a < 4) (hb : b < 4) (pa : p.getD a false = true) (pb : p.getD b false = false) :
    ∃ i j z, z ∈ movL y ∧ Mov y i j z ∧ oddF z p ≠ oddF y p := by
  have hn : ∃ i, i < 4 ∧ y.getD i 0 ≠ 0 := by
    rw [sum4sz hl] at hy
    have z0 : sz13 0 = 0 := by decide
    by_cases h0 : y.getD 0 0 = 0
    · by_cases h1 : y.getD 1 0 = 0
      · by_cases h2 : y.getD 2 0 = 0
        · refine ⟨3, by omega, fun h3 => ?_⟩
          rw [h0, h1, h2, h3, z0] at hy; omega
        · exact ⟨2, by omega, h2⟩
      · exact ⟨1, by omega, h1⟩
    · exact ⟨0, by omega, h0⟩
  obtain ⟨i, hi, hnz⟩ := hn
  have odd1 : ∀ x : Int, (x - 1) % 2 ≠ x % 2 ∧ (x + 1) % 2 ≠ x % 2 := fun x => by omega
  cases hp : p.getD i false with
  | true =>
    have hne : i ≠ b := fun e => by rw [e, pb] at hp; cases hp
    obtain ⟨z, hz, M⟩ := mov_some hi hb hne hnz
    refine ⟨i, b, z, hz, M, ?_⟩
    have := M.odd hl p
    rw [hp, pb] at this
    simp only [Bool.false_eq_true, if_true, if_false] at this
    unfold oddF
    rw [this]; have := odd1 (oddN y p 4); omega
  | false =>
    have hne : i ≠ a := fun e => by rw [e, pa] at hp; cases hp
    obtain ⟨z, hz, M⟩ := mov_some hi ha hne hnz
    refine ⟨i, a, z, hz, M, ?_⟩
    have := M.odd hl p
    rw [hp, pa] at this
    simp only [Bool.false_eq_true, if_true, if_false] at this
    unfold oddF
    rw [this]; have := odd1 (oddN y p 4); omega

/-- What the nearest is. -/
theorem near_to {good : List Int → Bool} {y : List Int} (hi : ∀ z ∈ movL y, (indexF z).2 = 0 → 0 ≤ (indexF z).1) : ∀ n, n ≤ (movL y).length →
    (nearTo good y n = (y, -1) ∧ ∀ j, j < n → (indexF ((movL y).getD j (List.replicate 4 0))).2 = 0 → good ((movL y).getD j (List.replicate 4 0)) = false) ∨
    (0 ≤ (nearTo good y n).2 ∧ (nearTo good y n).1 ∈ movL y ∧ good (nearTo good y n).1 = true ∧ (indexF (nearTo good y n).1).2 = 0)
  | 0, _ => .inl ⟨rfl, fun j hj => absurd hj (Nat.not_lt_zero _)⟩
  | n + 1, hn => by
    have ih := near_to (good := good) hi n (by omega)
    have hm : (movL y).getD n (List.replicate 4 0) ∈ movL y := getD_mem (by omega)
    rw [nearTo]
    generalize hz : (movL y).getD n (List.replicate 4 0) = z at hm ⊢
    unfold nearStep
    by_cases c : (decide ((indexF z).2 = 0) && (good z && (decide ((nearTo good y n).2 < 0) || decide ((indexF z).1 < (nearTo good y n).2)))) = true
    · rw [if_pos c]
      simp only [Bool.and_eq_true, decide_eq_true_eq] at c
      right
      exact ⟨hi z hm c.1, hm, c.2.1, c.1⟩
    · rw [if_neg c]
      rcases ih with ⟨h1, h2⟩ | h
      · left
        refine ⟨h1, fun j hj h0 => ?_⟩
        by_cases e : j = n
        · subst e
          rw [hz] at h0 ⊢
          rw [h1] at c
          cases hg : good z with
          | false => rfl
          | true => exact absurd (by rw [hg, decide_eq_true h0]; rfl) c
        · exact h2 j (by omega) h0
      · exact .inr h
/-- What is near. -/
theorem near_ok {good : List Int → Bool} {y : List Int} (hi : ∀ z ∈ movL y, (indexF z).2 = 0 → 0 ≤ (indexF z).1) :
    (nearF good y = y ∧ ∀ z ∈ movL y, (indexF z).2 = 0 → good z = false) ∨ (nearF good y ∈ movL y ∧ good (nearF good y) = true ∧ (indexF (nearF good y)).2 = 0) := by
  rcases near_to (good := good) hi _ (Nat.le_refl _) with ⟨h1, h2⟩ | ⟨-, h⟩
  · left
    refine ⟨by unfold nearF; rw [h1], fun z hz h0 => ?_⟩
    obtain ⟨j, hj, e⟩ := List.getElem_of_mem hz
    have := h2 j hj
    rw [List.getD_eq_getElem?_getD, List.getElem?_eq_getElem hj, Option.getD_some, e] at this
    exact this h0
  · exact .inr h
end Go.SL.A

/- Functions and what they are held to do: bound to their code. -/
namespace Go.SL.A
open Go Go.SL Go.SL.S
set_option maxRecDepth 100000
end Go.SL.A

/- MarkWithin: plain. -/
namespace Go.SL.A
open Go Go.SL Go.SL.S
set_option maxRecDepth 100000

theorem giveB_in {n : Int} (h : 12 ≤ n ∧ n ≤ 24) : giveB n = 8 * n - 64 := by unfold giveB; rw [if_neg (by omega)]
theorem shape_pack {side l : List Int} {n : Int} (hx : ∀ x ∈ l, 0 ≤ x ∧ x ≤ 4294967295) (hn : 12 ≤ n ∧ n ≤ 24) : ∀ b : Nat, b < 8 → sumSz ((shape19 side l n).2.getD b (List.replicate 4 0)) = (giveV (shape19 side l n).1 (giveB n)).getD b 0 := by
  intro b hb
  have hk := giveK side hn b hb
  have e : (giveV (shape19 side l n).1 (giveB n)).getD b 0 = (refF (held8 side) (8 * n - 64)).getD b 0 := by
    rw [giveB_in hn, ← give_eq (held8 side) (B := 8 * n - 64) (by omega)]
    show (giveV (held8 side) (8 * n - 64)).getD b 0 = _
    rw [(giveV_ok (held8_right side) (by omega)).2]
  rw [e]
  show sumSz ((shRows _ l).getD b (List.replicate 4 0)) = _
  rw [List.getD_eq_getElem?_getD, rows_at _ l hb, Option.getD_some]
  exact (shRow_ok hk (l_fit hx b).1).2
theorem pack_ok {s : SHM} {n : Int} (hn : 12 ≤ n ∧ n ≤ 24) (h : Rt s) (hk : ∀ b : Nat, b < 8 → sumSz (s.2.getD b (List.replicate 4 0)) = (giveV s.1 (giveB n)).getD b 0) : packR s n = true := by
  unfold packR
  rw [if_neg (by rw [giveB_in hn, h.rt]; simp; omega)]
  refine List.all_eq_true.2 fun b hb => ?_
  have hb := List.mem_range.1 hb
  have hz := h.sz (b : Int) (by omega)
  have l8 := h.l8
  have hl : (s.2.getD b (List.replicate 4 0)).length = 4 := h.l4 _ (getD_mem (by omega))
  have e : rowZ s.2 (b : Int) = s.2.getD b (List.replicate 4 0) := rfl
  rw [e] at hz
  rw [pulses_sz hl hz, hk b hb]
  exact decide_eq_true rfl
theorem may_self {s : List Int} {b : Int} (hr : rightF s = true) (hb : 0 ≤ b ∧ b < 8) {y z : List Int} (h : farM y z 4 ≤ movF s b) : mayV s b y z = true := by
  unfold mayV mayM
  rw [hr, decide_eq_true hb.1, decide_eq_true hb.2, decide_eq_true h]; rfl
end Go.SL.A

/- Tags: plain laws. -/
namespace Go.SL.A
open Go Go.SL Go.SL.S
set_option maxRecDepth 100000

/-! ### Bands -/
theorem bands_fin : ∀ o : Fin 8, ((iotaI 8).filter fun b => decide (b ≠ ((o.val : Nat) : Int))).length = 7 ∧
    (∀ i : Fin 7, 0 ≤ ((iotaI 8).filter fun b => decide (b ≠ ((o.val : Nat) : Int))).getD i.val 0 ∧ ((iotaI 8).filter fun b => decide (b ≠ ((o.val : Nat) : Int))).getD i.val 0 < 8 ∧ ((iotaI 8).filter fun b => decide (b ≠ ((o.val : Nat) : Int))).getD i.val 0 ≠ ((o.val : Nat) : Int)) ∧
    (∀ i j : Fin 7, i ≠ j → ((iotaI 8).filter fun b => decide (b ≠ ((o.val : Nat) : Int))).getD i.val 0 ≠ ((iotaI 8).filter fun b => decide (b ≠ ((o.val : Nat) : Int))).getD j.val 0) ∧
    (∀ b : Fin 8, b = o ∨ ∃ i : Fin 7, ((iotaI 8).filter fun b => decide (b ≠ ((o.val : Nat) : Int))).getD i.val 0 = ((b.val : Nat) : Int)) := by decide +kernel
structure BandsOK (o : Int) (l : List Int) : Prop where
  len : l.length = 7
  fit : ∀ i, i < 7 → 0 ≤ l.getD i 0 ∧ l.getD i 0 < 8
  ne : ∀ i, i < 7 → l.getD i 0 ≠ o
  inj : ∀ i j, i < 7 → j < 7 → i ≠ j → l.getD i 0 ≠ l.getD j 0
  cov : ∀ b : Int, 0 ≤ b → b < 8 → b = o ∨ ∃ i, i < 7 ∧ l.getD i 0 = b
theorem bands_ok (k : List Int) (f : Int) : BandsOK (bandK k f) (bandsK k f) := by
  have hb := band_fit k f
  unfold bandsK
  generalize bandK k f = o at hb ⊢
  obtain ⟨n, rfl⟩ : ∃ n : Nat, o = (n : Int) := ⟨o.toNat, by omega⟩
  have hn : n < 8 := by omega
  obtain ⟨h1, h2, h3, h4⟩ := bands_fin ⟨n, hn⟩
  refine ⟨h1, fun i hi => ⟨(h2 ⟨i, hi⟩).1, (h2 ⟨i, hi⟩).2.1⟩, fun i hi => (h2 ⟨i, hi⟩).2.2, fun i j hi hj hne => h3 ⟨i, hi⟩ ⟨j, hj⟩ (fun e => hne (Fin.mk.inj e)), fun b h0 h8 => ?_⟩
  rcases h4 ⟨b.toNat, by omega⟩ with h | ⟨i, h⟩
  · left
    have := Fin.mk.inj h
    omega
  · right
    refine ⟨i.val, i.isLt, h.trans ?_⟩
    show ((b.toNat : Nat) : Int) = b
    omega

/-! ### Subsets and parities -/
theorem sub0_len (x : Int) : (sub0 x).length = 4 := by simp [sub0]
theorem sub_len (x : Int) : (subX x).length = 4 := by
  unfold subX; split
  · rw [List.length_set, sub0_len]
  · exact sub0_len x
theorem four_b {p : List Bool} (hl : p.length = 4) : ∃ a b c d, p = [a, b, c, d] := by
  match p, hl with
  | [a, b, c, d], _ => exact ⟨a, b, c, d, rfl⟩
theorem not_all {p : List Bool} (hl : p.length = 4) {v : Bool} (h : p ≠ List.replicate 4 v) : ∃ a, a < 4 ∧ p.getD a false = !v := by
  obtain ⟨a, b, c, d, rfl⟩ := four_b hl
  by_cases h0 : a = v
  · by_cases h1 : b = v
    · by_cases h2 : c = v
      · by_cases h3 : d = v
        · exact absurd (by rw [h0, h1, h2, h3]; rfl) h
        · exact ⟨3, by omega, by show d = !v; cases d <;> cases v <;> simp_all⟩
      · exact ⟨2, by omega, by show c = !v; cases c <;> cases v <;> simp_all⟩
    · exact ⟨1, by omega, by show b = !v; cases b <;> cases v <;> simp_all⟩
  · exact ⟨0, by omega, by show a = !v; cases a <;> cases v <;> simp_all⟩
theorem sub_some (x : Int) : ∃ a, a < 4 ∧ (subX x).getD a false = true := by
  have h4 := sub0_len x
  unfold subX
  split
  · refine ⟨0, by omega, ?_⟩
    rw [List.getD_eq_getElem?_getD, List.getElem?_set_self (by omega)]; rfl
  · rename_i h; exact not_all h4 h
theorem par_in {k : List Int} {f b : Int} {y : List Int} (hb : 0 ≤ b ∧ b < 8) (hl : y.length = 4) (hq : sumSz y ≤ 12) :
    parK k f b y = (oddF y (subK k f b), decide (0 < sumSz y) && !decide (subK k f b = List.replicate 4 true)) := by
  have e := pulses_sz hl hq
  unfold parK
  rw [e, decide_eq_false (show ¬ b < 0 by omega), decide_eq_false (show ¬ 8 ≤ b by omega), decide_eq_false (show ¬ 12 < sumSz y by omega)]
  exact if_neg (by decide)
theorem odd_two (y : List Int) (p : List Bool) : oddF y p = 0 ∨ oddF y p = 1 := by unfold oddF; omega
theorem wish_two (own back : Int) (i : Nat) : wishBit own back i = 0 ∨ wishBit own back i = 1 := by
  unfold wishBit; split <;> omega

/-! ### A band -/
theorem mov_four {s : List Int} {b : Int} (hr : rightF s = true) (hb : 0 ≤ b ∧ b < 8) : 4 ≤ movF s b := by
  have hm : mayM s b = true := by
    unfold mayM; rw [hr, decide_eq_true hb.1, decide_eq_true hb.2]; rfl
  have hx := right_get hr b.toNat
  have h1 : 4 * 2 ^ (s.getD b.toNat 0).toNat ≤ budTo s b 8 := by
    have key : ∀ j, b.toNat < j → 4 * 2 ^ (s.getD b.toNat 0).toNat ≤ budTo s b j := by
      intro j
      induction j with
      | zero => intro h; omega
      | succ j ih =>
        intro h
        rw [budTo]
        by_cases e : j = b.toNat
        · have : budX s b j = 4 * 2 ^ (s.getD b.toNat 0).toNat := by
            unfold budX
            rw [if_pos (by omega), e, show b - ((b.toNat : Nat) : Int) = 0 by omega]
            unfold slopeX
            rw [Int.mul_zero, Int.toNat_zero, Int.pow_zero, Int.ediv_one]
          rw [this]; omega
        · have := ih (by omega); omega
    exact key 8 (by omega)
  unfold movF
  rw [if_pos hm]
  have hp : (0 : Int) < 2 ^ (s.getD b.toNat 0).toNat := Int.pow_pos (by decide)
  exact Int.le_ediv_of_mul_le hp h1
theorem far_may {s : List Int} {b : Int} (hr : rightF s = true) (hb : 0 ≤ b ∧ b < 8) {y z : List Int} (h : farM y z 4 ≤ 4) : mayV s b y z = true :=
  may_self hr hb (Int.le_trans h (mov_four hr hb))
theorem idx_in {y z : List Int} (hl : y.length = 4) (hq : sumSz y ≤ 12) (hz : z ∈ movL y) : (indexF z).2 = 0 ∧ 0 ≤ (indexF z).1 := by
  obtain ⟨i, j, M⟩ := mov_mem hz
  have hs := M.sz hl hq
  have hp := pulses_sz (M.len hl) (by omega)
  have e : (indexF z).2 = 0 := by unfold indexF; rw [if_neg (by omega)]
  have k := index_ok e
  exact ⟨e, by rw [k.2.2.2.1]; exact k.2.2.2.2.1⟩

structure PutB (k : List Int) (f : Int) (side : List Int) (b bit : Int) (y y' : List Int) : Prop where
  len : y'.length = 4
  sz : sumSz y' = sumSz y
  may : mayV side b y y' = true
  can : (parK k f b y').2 = (parK k f b y).2
  tells : (parK k f b y).2 = true → (parK k f b y').1 = bit
  no : (parK k f b y).2 = false → y' = y
  was : (parK k f b y).1 = bit → y' = y
theorem putY_ok {k : List Int} {f : Int} {side : List Int} {b bit : Int} {y : List Int} (hr : rightF side = true) (hb : 0 ≤ b ∧ b < 8) (hl : y.length = 4) (hq : sumSz y ≤ 12) (hbit : bit = 0 ∨ bit = 1) :
    PutB k f side b bit y (putY k f side b bit y) := by
  have hself : mayV side b y y = true := far_may hr hb (by rw [far_self hl]; omega)
  unfold putY
  by_cases c : (parK k f b y).2 = true ∧ (parK k f b y).1 ≠ bit
  · rw [if_pos c]
    obtain ⟨c1, c2⟩ := c
    have e := par_in (k := k) (f := f) hb hl hq
    rw [e] at c1 c2
    simp only [Bool.and_eq_true, decide_eq_true_eq, Bool.not_eq_true', decide_eq_false_iff_not] at c1
    have hno := not_all (show (subK k f b).length = 4 by rw [subK_eq]; exact sub_len _) c1.2
    obtain ⟨a, ha, pa⟩ := sub_some (numK k 115 (f % 1016 * 8 + b))
    rw [← subK_eq] at pa
    obtain ⟨a', ha', pa'⟩ := hno
    obtain ⟨i, j, z, hz, M, ho⟩ := mov_flip hl c1.1 (p := subK k f b) ha ha' pa pa'
    have hzl := M.len hl
    have hzs := M.sz hl hq
    have hgood : (decide ((parK k f b z).1 = bit) && mayV side b y z) = true := by
      rw [par_in hb hzl (by omega), far_may hr hb (by rw [M.far hl]; omega), Bool.and_true]
      refine decide_eq_true ?_
      show oddF z (subK k f b) = bit
      have h1 := odd_two z (subK k f b)
      have h2 := odd_two y (subK k f b)
      have c2 : oddF y (subK k f b) ≠ bit := c2
      omega
    rcases near_ok (good := fun z => decide ((parK k f b z).1 = bit) && mayV side b y z) (y := y) (fun z hz _ => (idx_in hl hq hz).2) with ⟨-, h⟩ | ⟨h1, h2, -⟩
    · have := h z hz (idx_in hl hq hz).1
      rw [hgood] at this; cases this
    · generalize nearF (fun z => decide ((parK k f b z).1 = bit) && mayV side b y z) y = w at h1 h2 ⊢
      obtain ⟨i', j', M'⟩ := mov_mem h1
      have hwl := M'.len hl
      have hws := M'.sz hl hq
      simp only [Bool.and_eq_true, decide_eq_true_eq] at h2
      refine ⟨hwl, hws, h2.2, ?_, fun _ => h2.1, fun hn => ?_, fun hw => ?_⟩
      · rw [par_in hb hwl (by omega), e, hws]
      · rw [e] at hn
        simp only [Bool.and_eq_false_iff, decide_eq_false_iff_not, Bool.not_eq_false', decide_eq_true_eq] at hn
        rcases hn with hn | hn
        · exact absurd c1.1 hn
        · exact absurd hn c1.2
      · rw [e] at hw; exact absurd hw c2
  · rw [if_neg c]
    refine ⟨hl, rfl, hself, rfl, fun h => ?_, fun _ => rfl, fun _ => rfl⟩
    by_cases h2 : (parK k f b y).1 = bit
    · exact h2
    · exact absurd ⟨h, h2⟩ c
theorem putY_again {k : List Int} {f : Int} {side : List Int} {b bit : Int} {y : List Int} {y' : List Int} (h : PutB k f side b bit y y') : putY k f side b bit y' = y' := by
  unfold putY
  rw [if_neg ?_]
  rintro ⟨h1, h2⟩
  rw [h.can] at h1
  exact h2 (h.tells h1)
end Go.SL.A

/- Tags: plain laws of shapes. -/
namespace Go.SL.A
open Go Go.SL Go.SL.S
set_option maxRecDepth 100000

theorem row_len {s : SHM} (h : Rt s) {b : Int} (hb : 0 ≤ b ∧ b < 8) : (rowZ s.2 b).length = 4 := h.l4 _ (getD_mem (by have := h.l8; omega))
theorem rowZ_set {Y : List (List Int)} (hl : Y.length = 8) {b c : Int} (hb : 0 ≤ b ∧ b < 8) (hc : 0 ≤ c ∧ c < 8) (y : List Int) : rowZ (List.set Y b.toNat y) c = if c = b then y else rowZ Y c := by
  unfold rowZ
  by_cases e : c = b
  · rw [if_pos e, e]; exact row_set (by omega) y
  · rw [if_neg e, List.getD_eq_getElem?_getD, List.getElem?_set_ne (by omega), ← List.getD_eq_getElem?_getD]
structure PutI (k : List Int) (f own back : Int) (s : SHM) (i : Nat) (t : SHM) : Prop where
  sd : t.1 = s.1
  l8 : t.2.length = 8
  old : ∀ b : Int, 0 ≤ b → b < 8 → (∀ j, j < i → (bandsK k f).getD j 0 ≠ b) → rowZ t.2 b = rowZ s.2 b
  new : ∀ j, j < i → rowZ t.2 ((bandsK k f).getD j 0) = putY k f s.1 ((bandsK k f).getD j 0) (wishBit own back j) (rowZ s.2 ((bandsK k f).getD j 0))
theorem putT_ok {k : List Int} {f : Int} (own back : Int) {s : SHM} (h : Rt s) : ∀ i, i ≤ 7 → PutI k f own back s i (tagT k f own back s i)
  | 0, _ => ⟨rfl, h.l8, fun _ _ _ _ => rfl, fun j hj => absurd hj (Nat.not_lt_zero _)⟩
  | i + 1, hi => by
    have ih := putT_ok (k := k) (f := f) own back h i (by omega)
    have B := bands_ok k f
    have hb := B.fit i (by omega)
    have l8 := ih.l8
    refine ⟨ih.sd, by show (List.set _ _ _).length = 8; rw [List.length_set]; exact l8, fun b h0 h8 hn => ?_, fun j hj => ?_⟩
    · have e : b ≠ (bandsK k f).getD i 0 := fun e => hn i (by omega) e.symm
      show rowZ (List.set _ _ _) b = _
      rw [rowZ_set l8 hb ⟨h0, h8⟩, if_neg e]
      exact ih.old b h0 h8 fun j hj => hn j (by omega)
    · have hc := B.fit j (by omega)
      show rowZ (List.set _ _ _) _ = _
      rw [rowZ_set l8 hb hc]
      by_cases e : j = i
      · subst e
        rw [if_pos rfl, ih.sd, ih.old _ hb.1 hb.2 fun q hq => B.inj q j (by omega) (by omega) (by omega)]
      · rw [if_neg (B.inj j i (by omega) (by omega) e)]
        exact ih.new j (by omega)

/-- A shape and the one with its tags. -/
structure Tagd (k : List Int) (f own back : Int) (s t : SHM) : Prop where
  sd : t.1 = s.1
  rt : Rt t
  mine : rowZ t.2 (bandK k f) = rowZ s.2 (bandK k f)
  free : rowZ t.2 ((bandsK k f).getD 6 0) = rowZ s.2 ((bandsK k f).getD 6 0)
  put : ∀ j, j < 6 → PutB k f s.1 ((bandsK k f).getD j 0) (wishBit own back j) (rowZ s.2 ((bandsK k f).getD j 0)) (rowZ t.2 ((bandsK k f).getD j 0))
theorem tagd {k : List Int} {f : Int} (own back : Int) {s : SHM} (h : Rt s) : Tagd k f own back s (tagT k f own back s 6) := by
  have P := putT_ok (k := k) (f := f) own back h 6 (by omega)
  have B := bands_ok k f
  have hb := band_fit k f
  generalize tagT k f own back s 6 = t at P ⊢
  have put : ∀ j, j < 6 → PutB k f s.1 ((bandsK k f).getD j 0) (wishBit own back j) (rowZ s.2 ((bandsK k f).getD j 0)) (rowZ t.2 ((bandsK k f).getD j 0)) := fun j hj => by
    have hf := B.fit j (by omega)
    rw [P.new j hj]
    exact putY_ok h.rt hf (row_len h hf) (h.sz _ hf) (wish_two _ _ _)
  have own0 := P.old _ hb.1 hb.2 fun j hj => B.ne j (by omega)
  have free := P.old _ (B.fit 6 (by omega)).1 (B.fit 6 (by omega)).2 fun j hj => B.inj j 6 (by omega) (by omega) (by omega)
  have row : ∀ b : Int, 0 ≤ b ∧ b < 8 → (rowZ t.2 b).length = 4 ∧ sumSz (rowZ t.2 b) ≤ 12 := fun b hb8 => by
    rcases B.cov b hb8.1 hb8.2 with e | ⟨i, hi, e⟩
    · rw [e, own0]; exact ⟨row_len h hb, h.sz _ hb⟩
    · by_cases h6 : i = 6
      · subst h6; rw [← e, free]; exact ⟨row_len h (B.fit 6 hi), h.sz _ (B.fit 6 hi)⟩
      · have := put i (by omega)
        rw [← e]
        exact ⟨this.len, by rw [this.sz]; exact h.sz _ (B.fit i hi)⟩
  have mem : ∀ y ∈ t.2, ∃ b : Int, (0 ≤ b ∧ b < 8) ∧ y = rowZ t.2 b := fun y hy => by
    obtain ⟨n, hn, e⟩ := List.getElem_of_mem hy
    have l8 := P.l8
    refine ⟨(n : Int), by omega, ?_⟩
    unfold rowZ
    rw [Int.toNat_natCast, List.getD_eq_getElem?_getD, List.getElem?_eq_getElem hn, Option.getD_some, e]
  refine ⟨P.sd, ⟨by rw [P.sd]; exact h.l1, P.l8, fun y hy => ?_, List.all_eq_true.2 fun y hy => ?_, fun b hb8 => (row b hb8).2, by rw [P.sd]; exact h.rt⟩, own0, free, put⟩
  · obtain ⟨b, hb8, rfl⟩ := mem y hy; exact (row b hb8).1
  · obtain ⟨b, hb8, rfl⟩ := mem y hy; exact okRow_of (row b hb8).2
theorem rightT_of {s : SHM} (h : Rt s) : rightT s = true := by
  unfold rightT
  rw [h.rt, Bool.and_true]
  refine List.all_eq_true.2 fun y hy => ?_
  obtain ⟨n, hn, e⟩ := List.getElem_of_mem hy
  have l8 := h.l8
  have := h.sz (n : Int) (by omega)
  unfold rowZ at this
  rw [Int.toNat_natCast, List.getD_eq_getElem?_getD, List.getElem?_eq_getElem hn, Option.getD_some, e] at this
  rw [pulses_sz (h.l4 y hy) this]
  exact decide_eq_true this
theorem putG_eq {k : List Int} {f : Int} {s : SHM} (h : Rt s) (a : ByteArray) : putG k f s a = tagT k f (ownK k f s) (aheadK k a) s 6 := by
  unfold putG; rw [if_pos (rightT_of h)]
theorem own_same {k : List Int} {f : Int} {s t : SHM} (h1 : t.1 = s.1) (h2 : rowZ t.2 (bandK k f) = rowZ s.2 (bandK k f)) (h3 : rowZ t.2 ((bandsK k f).getD 6 0) = rowZ s.2 ((bandsK k f).getD 6 0)) : ownK k f t = ownK k f s := by
  unfold ownK ownB; rw [h1, h2, h3]
/-- What was put in tells right, and as many can tell as before. -/
theorem told_ok {k : List Int} {f : Int} {s : SHM} (h : Rt s) (a : ByteArray) {i : Nat} (hi : i < 6) :
    canN k f (putG k f s a) i = canN k f s i ∧ badN k f (putG k f s a) (ownK k f (putG k f s a)) (aheadK k a) i = 0 := by
  rw [putG_eq h]
  have T := tagd (k := k) (f := f) (ownK k f s) (aheadK k a) h
  generalize tagT k f (ownK k f s) (aheadK k a) s 6 = t at T ⊢
  have P := T.put i hi
  rw [own_same T.sd T.mine T.free]
  unfold canN badN
  refine ⟨by rw [P.can], if_neg ?_⟩
  rintro ⟨h1, h2⟩
  rw [P.can] at h1
  exact h2 (P.tells h1)
/-- Put in twice they are put in once. -/
theorem rows_ext {s t : SHM} (h1 : t.1 = s.1) (l8 : s.2.length = 8) (m8 : t.2.length = 8) (h : ∀ b : Int, 0 ≤ b → b < 8 → rowZ t.2 b = rowZ s.2 b) : t = s := by
  have e : t.2 = s.2 := by
    refine List.ext_getElem (by omega) fun n hn hm => ?_
    have := h (n : Int) (by omega) (by omega)
    unfold rowZ at this
    rw [Int.toNat_natCast, List.getD_eq_getElem?_getD, List.getD_eq_getElem?_getD, List.getElem?_eq_getElem hn, List.getElem?_eq_getElem hm] at this
    exact this
  exact Prod.ext h1 e
theorem put_twice {k : List Int} {f : Int} {s : SHM} (h : Rt s) (a : ByteArray) : putG k f (putG k f s a) a = putG k f s a := by
  have B := bands_ok k f
  rw [putG_eq h]
  have T := tagd (k := k) (f := f) (ownK k f s) (aheadK k a) h
  generalize tagT k f (ownK k f s) (aheadK k a) s 6 = t at T ⊢
  rw [putG_eq T.rt, own_same T.sd T.mine T.free]
  have P := putT_ok (k := k) (f := f) (ownK k f s) (aheadK k a) T.rt 6 (by omega)
  generalize tagT k f (ownK k f s) (aheadK k a) t 6 = u at P ⊢
  refine rows_ext P.sd T.rt.l8 P.l8 fun b h0 h8 => ?_
  by_cases e : ∃ j, j < 6 ∧ (bandsK k f).getD j 0 = b
  · obtain ⟨j, hj, rfl⟩ := e
    rw [P.new j hj, T.sd]
    exact putY_again (T.put j hj)
  · exact P.old b h0 h8 fun j hj e' => e ⟨j, hj, e'⟩
theorem put_may {k : List Int} {f : Int} {s : SHM} (h : Rt s) (a : ByteArray) {b : Int} (hb : 0 ≤ b ∧ b < 8) : mayV s.1 b (rowZ s.2 b) (rowZ (putG k f s a).2 b) = true := by
  have B := bands_ok k f
  rw [putG_eq h]
  have T := tagd (k := k) (f := f) (ownK k f s) (aheadK k a) h
  generalize tagT k f (ownK k f s) (aheadK k a) s 6 = t at T ⊢
  have self : mayV s.1 b (rowZ s.2 b) (rowZ s.2 b) = true := far_may h.rt hb (by rw [far_self (row_len h hb)]; omega)
  rcases B.cov b hb.1 hb.2 with e | ⟨i, hi, e⟩
  · rw [e] at self ⊢; rw [T.mine]; exact self
  · by_cases h6 : i = 6
    · subst h6; rw [← e] at self ⊢; rw [T.free]; exact self
    · rw [← e]; exact (T.put i (by omega)).may
theorem put_sum {k : List Int} {f : Int} {s : SHM} (h : Rt s) (a : ByteArray) {b : Int} (hb : 0 ≤ b ∧ b < 8) : sumSz (rowZ (putG k f s a).2 b) = sumSz (rowZ s.2 b) := by
  have B := bands_ok k f
  rw [putG_eq h]
  have T := tagd (k := k) (f := f) (ownK k f s) (aheadK k a) h
  generalize tagT k f (ownK k f s) (aheadK k a) s 6 = t at T ⊢
  rcases B.cov b hb.1 hb.2 with e | ⟨i, hi, e⟩
  · rw [e, T.mine]
  · by_cases h6 : i = 6
    · subst h6; rw [← e, T.free]
    · rw [← e]; exact (T.put i (by omega)).sz
theorem put_tagd {k : List Int} {f : Int} {s : SHM} (h : Rt s) (a : ByteArray) : Tagd k f (ownK k f s) (aheadK k a) s (putG k f s a) := by
  rw [putG_eq h]; exact tagd _ _ h
theorem own_fit (k : List Int) (f : Int) (s : SHM) : 0 ≤ ownK k f s ∧ ownK k f s ≤ 7 := by unfold ownK; omega
end Go.SL.A

/- Tags: what they hang on. -/
namespace Go.SL.A
open Go Go.SL Go.SL.S
set_option maxRecDepth 100000

structure MixI (l : List Int) (S T : List (List Int)) (i : Nat) (R : List (List Int)) : Prop where
  l8 : R.length = 8
  old : ∀ b : Int, 0 ≤ b → b < 8 → (∀ j, j < i → l.getD j 0 ≠ b) → rowZ R b = rowZ S b
  new : ∀ j, j < i → rowZ R (l.getD j 0) = rowZ T (l.getD j 0)
theorem mix_ok {o : Int} {l : List Int} (B : BandsOK o l) {S T : List (List Int)} (hS : S.length = 8) : ∀ i, i ≤ 7 → MixI l S T i (mixR l S T i)
  | 0, _ => ⟨hS, fun _ _ _ _ => rfl, fun j hj => absurd hj (Nat.not_lt_zero _)⟩
  | i + 1, hi => by
    have ih := mix_ok B (T := T) hS i (by omega)
    have hb := B.fit i (by omega)
    have l8 := ih.l8
    refine ⟨by show (List.set _ _ _).length = 8; rw [List.length_set]; exact l8, fun b h0 h8 hn => ?_, fun j hj => ?_⟩
    · have e : b ≠ l.getD i 0 := fun e => hn i (by omega) e.symm
      show rowZ (List.set _ _ _) b = _
      rw [rowZ_set l8 hb ⟨h0, h8⟩, if_neg e]
      exact ih.old b h0 h8 fun j hj => hn j (by omega)
    · have hc := B.fit j (by omega)
      show rowZ (List.set _ _ _) _ = _
      rw [rowZ_set l8 hb hc]
      by_cases e : j = i
      · subst e; rw [if_pos rfl]
      · rw [if_neg (B.inj j i (by omega) (by omega) e)]
        exact ih.new j (by omega)
/-- With other bands' pulses the tags of a packet itself are the same; with all it is the other one. -/
theorem free_ok {k : List Int} {f : Int} {s t : SHM} (h : t.1 = s.1) (l8 : s.2.length = 8) (m8 : t.2.length = 8) :
    ownK k f (s.1, mixR (bandsK k f) s.2 t.2 6) = ownK k f s ∧
    (s.1, List.set (List.set (mixR (bandsK k f) s.2 t.2 6) (bandK k f).toNat (rowZ t.2 (bandK k f))) ((bandsK k f).getD 6 0).toNat (rowZ t.2 ((bandsK k f).getD 6 0))) = t := by
  have B := bands_ok k f
  have hb := band_fit k f
  have M := mix_ok B (T := t.2) l8 6 (by omega)
  have h6 := B.fit 6 (by omega)
  generalize mixR (bandsK k f) s.2 t.2 6 = R at M ⊢
  constructor
  · exact own_same rfl (M.old _ hb.1 hb.2 fun j hj => B.ne j (by omega)) (M.old _ h6.1 h6.2 fun j hj => B.inj j 6 (by omega) (by omega) (by omega))
  · have r8 := M.l8
    refine rows_ext h.symm m8 (by show (List.set (List.set R _ _) _ _).length = 8; rw [List.length_set, List.length_set]; exact r8) fun b h0 h8 => ?_
    show rowZ (List.set (List.set R _ _) _ _) b = _
    rw [rowZ_set (by rw [List.length_set]; exact r8) h6 ⟨h0, h8⟩, rowZ_set r8 hb ⟨h0, h8⟩]
    by_cases e : b = (bandsK k f).getD 6 0
    · rw [if_pos e, e]
    · rw [if_neg e]
      by_cases e2 : b = bandK k f
      · rw [if_pos e2, e2]
      · rw [if_neg e2]
        rcases B.cov b h0 h8 with e3 | ⟨i, hi, e3⟩
        · exact absurd e3 e2
        · have : i ≠ 6 := fun h => e (by rw [← e3, h])
          rw [← e3]; exact M.new i (by omega)
end Go.SL.A

/- Functions and what they are held to do: bound to their code. -/
namespace Go.SL.A
open Go Go.SL Go.SL.S
set_option maxRecDepth 100000
noncomputable section
noncomputable def Ct84 : Ctx := ⟨Go.Proofs.Tryd.prog, D, Gd26, (fun _ _ => none), fun _ => []⟩
def annt84 (k : List Int) (f b _c : Int) : Nat → St → Option Ann := fun _ _ => some ⟨Nat, [3, 8, 9, 10], [1, 3], fun i => [(36, .v (.int .i64) (i : Int)), (11, .v .bool (anyB ((sub0 (numK k 115 (f % 1016 * 8 + b))).take i)))], fun i => [(2, some ⟨false, true, .arr 4 .bool, [(sub0 (numK k 115 (f % 1016 * 8 + b))).take i ++ (List.replicate 4 false).drop i]⟩)], fun i => i ≤ 4, fun i => 4 - i⟩
def outt84 (k : List Int) (f b c : Int) : COut := ⟨[(0 ≤ b ∧ b < 8) ∧ c = 0], .v (.arr 4 .bool) (subK k f b), [], []⟩
def spt84 : Spec := fun args ins => match args, ins with
  | [⟨.arr 16 (.int .u8), k⟩, ⟨.int .i64, f⟩, ⟨.int .i64, b⟩, ⟨.int .i64, c⟩], [] => some (outt84 k f b c)
  | _, _ => none
def Gt84 := addG Gd26 84 spt84
def Pt84 (k : List Int) (f b c : Int) : Prop :=
 ∀ (b_1:Bool),decide (b<0)=b_1→∀ (b_2:Bool),(bif b_1 then true else decide (8≤b))=b_2→∀ (b_3:Bool),(bif b_2 then true else decide (c<0))=b_3→(((!b_1)=true→(!b_1)=true)∧(b_1=false→(!b_1)=true)∧((!b_2)=true→(!b_2)=true)∧(b_2=false→(!b_2)=true)∧((!b_3)=true→(!b_3)=true)∧(b_3=false→(!b_3)=true))∧bif
 bif b_3 then true else decide (7<c) then false :: List.replicate (nat_lit 3) false=subK k f b else ∃ (x:Nat),((c=c∧0=0∧0=0∧0=0∧false=anyB (List.take x (sub0 (numK k (115:Int) (f % 1016 * 8+b))))∧0=(x:Int)∧false :: List.replicate (nat_lit
 3) false=List.replicate 4 false∧false=false∧false :: List.replicate (nat_lit 3) false=List.take x (sub0 (numK k (115:Int) (f % 1016 * 8+b))) ++ List.drop x (List.replicate 4 false)∧false=false∧numK k (115:Int) (IntKind.wrap .i64 (IntKind.wrap
 .i64 (f % 1016 * 8)+b))=numK k (115:Int) (IntKind.wrap .i64 (IntKind.wrap .i64 (f % 1016 * 8)+b))∧false=false)∧x≤4)∧∀ (x:Nat),x≤4→(IntKind.min .i64≤(x:Int)∧(x:Int)≤IntKind.max .i64∧∀ (y:List Bool),List.Mem y [List.take x (sub0 (numK
 k (115:Int) (f % 1016 * 8+b))) ++ List.drop x (List.replicate 4 false)]→List.length y=4∧∀ (y_1:Bool),List.Mem y_1 y→True)→bif decide ((x:Int)<4) then ((0≤IntKind.wrap .i64 (IntKind.wrap .i64 ((4:Int) * c)+(x:Int))∧IntKind.wrap .i64
 (IntKind.wrap .i64 ((4:Int) * c)+(x:Int))<64)∧(0≤(x:Int)∧(x:Int)<(↑ (4:Nat):Int))∧(x:Int).toNat<4)∧∀ (b_4:Bool),anyB (List.take x (sub0 (numK k (115:Int) (f % 1016 * 8+b))))=b_4→(((!b_4)=true→(!b_4)=true∧0≤(x:Int)∧(x:Int)<(↑ (4:Nat):Int))∧((!b_4)=true→(!b_4)=true∧(x:Int).toNat<4)∧(b_4=false→(!b_4)=true))∧∃
 (y:Nat),(c=c∧0=0∧0=0∧0=0∧(bif b_4 then true else List.getD (List.set (List.take x (sub0 (numK k (115:Int) (f % 1016 * 8+b))) ++ List.drop x (List.replicate 4 false)) (x:Int).toNat (bitX (numK k (115:Int) (IntKind.wrap .i64 (IntKind.wrap
 .i64 (f % 1016 * 8)+b))) (IntKind.wrap .i64 (IntKind.wrap .i64 ((4:Int) * c)+(x:Int))).toNat)) (x:Int).toNat false)=anyB (List.take y (sub0 (numK k (115:Int) (f % 1016 * 8+b))))∧IntKind.wrap .i64 ((x:Int)+1)=(y:Int)∧false :: List.replicate
 (nat_lit 3) false=List.replicate 4 false∧false=false∧List.set (List.take x (sub0 (numK k (115:Int) (f % 1016 * 8+b))) ++ List.drop x (List.replicate 4 false)) (x:Int).toNat (bitX (numK k (115:Int) (IntKind.wrap .i64 (IntKind.wrap .i64
 (f % 1016 * 8)+b))) (IntKind.wrap .i64 (IntKind.wrap .i64 ((4:Int) * c)+(x:Int))).toNat)=List.take y (sub0 (numK k (115:Int) (f % 1016 * 8+b))) ++ List.drop y (List.replicate 4 false)∧false=false∧numK k (115:Int) (IntKind.wrap .i64
 (IntKind.wrap .i64 (f % 1016 * 8)+b))=numK k (115:Int) (IntKind.wrap .i64 (IntKind.wrap .i64 (f % 1016 * 8)+b))∧false=false)∧y≤4∧4 - y<4 - x else ∀ (b_4:Bool),List.getD (List.take x (sub0 (numK k (115:Int) (f % 1016 * 8+b))) ++ List.drop
 x (List.replicate 4 false)) (0:Nat) false=b_4→(((0:Int)≤0∧0<(↑ (4:Nat):Int))∧(0:Nat)<4∧((!b_4)=true→(!b_4)=true)∧(b_4=false→(!b_4)=true)∧((0:Int)≤0∧0<(↑ (4:Nat):Int))∧(0:Nat)<4)∧List.set (List.take x (sub0 (numK k (115:Int) (f % 1016
 * 8+b))) ++ List.drop x (List.replicate 4 false)) (0:Nat) (bif b_4 then true else !anyB (List.take x (sub0 (numK k (115:Int) (f % 1016 * 8+b)))))=subK k f b
theorem vct84 (k : List Int) (f b c : Int) : Pt84 k f b c = vcFun Ct84 (annt84 k f b c) Go.Proofs.Tryd.f84 [⟨.arr 16 (.int .u8), k⟩, ⟨.int .i64, f⟩, ⟨.int .i64, b⟩, ⟨.int .i64, c⟩] [] (outt84 k f b c) := by kernel_rfl

noncomputable def Ct85 : Ctx := ⟨Go.Proofs.Tryd.prog, D, Gt84, (fun _ _ => none), fun _ => []⟩
def annt85 (y : List Int) (p : List Bool) : Nat → St → Option Ann := fun _ _ => some ⟨Nat, [2, 8], [0], fun i => [(9, .v (.int .i64) (i : Int)), (5, .v (.int .i64) (oddN y p i))], fun _ => [], fun i => i ≤ 4, fun i => 4 - i⟩
def outt85 (y : List Int) (p : List Bool) : COut := ⟨[pulsesF y ≤ 12], .v (.int .i64) (oddF y p), [], []⟩
def spt85 : Spec := fun args ins => match args, ins with
  | [⟨.arr 4 (.int .i64), y⟩, ⟨.arr 4 .bool, p⟩], [] => some (outt85 y p)
  | _, _ => none
def Gt85 := addG Gt84 85 spt85
def Pt85 (y : List Int) (p : List Bool) : Prop :=
 ∃ (x:Nat),((0=0∧0=oddN y p x∧p=p∧0=(x:Int)∧y=y∧false=false)∧x≤4)∧∀ (x:Nat),x≤4→IntKind.min .i64≤(x:Int)∧(x:Int)≤IntKind.max .i64∧IntKind.min .i64≤oddN y p x∧oddN y p x≤IntKind.max .i64→bif decide ((x:Int)<4) then (0≤(x:Int)∧(x:Int)<(↑
 (4:Nat):Int))∧bif List.getD p (x:Int).toNat false then ((0≤(x:Int)∧(x:Int)<(↑ (4:Nat):Int))∧(x:Int).toNat<4∧(0≤(x:Int)∧(x:Int)<(↑ (4:Nat):Int))∧(x:Int).toNat<4)∧∃ (y_1:Nat),(0=0∧IntKind.wrap .i64 (oddN y p x+max (List.getD y (x:Int).toNat
 (0:Int)) (IntKind.wrap .i64 (0 - List.getD y (x:Int).toNat (0:Int))))=oddN y p y_1∧p=p∧IntKind.wrap .i64 ((x:Int)+1)=(y_1:Int)∧y=y∧false=false)∧y_1≤4∧4 - y_1<4 - x else ∃ (y_1:Nat),(0=0∧oddN y p x=oddN y p y_1∧p=p∧IntKind.wrap .i64
 ((x:Int)+1)=(y_1:Int)∧y=y∧false=false)∧y_1≤4∧4 - y_1<4 - x else (2:Int)≠0∧Int.tmod (oddN y p x) (2:Int)=oddF y p
theorem vct85 (y : List Int) (p : List Bool) : Pt85 y p = vcFun Ct85 (annt85 y p) Go.Proofs.Tryd.f85 [⟨.arr 4 (.int .i64), y⟩, ⟨.arr 4 .bool, p⟩] [] (outt85 y p) := by kernel_rfl

noncomputable def Ct83 : Ctx := ⟨Go.Proofs.Tryd.prog, D, Gt85, (fun _ _ => none), fun _ => []⟩
def annt83 (_y : List Int) : Nat → St → Option Ann := fun _ _ => none
def outt83 (y : List Int) : COut := ⟨[], .v .bool (decide (pulsesF y ≤ 12)), [], []⟩
def spt83 : Spec := fun args ins => match args, ins with
  | [⟨.arr 4 (.int .i64), y⟩], [] => some (outt83 y)
  | _, _ => none
def Gt83 := addG Gt85 83 spt83
def Pt83 (y : List Int) : Prop :=
 ((4:Nat)≤9223372036854775807∧4=List.length y)∧decide (pulsesF y≤12)=decide (pulsesF y≤12)
theorem vct83 (y : List Int) : Pt83 y = vcFun Ct83 (annt83 y) Go.Proofs.Tryd.f83 [⟨.arr 4 (.int .i64), y⟩] [] (outt83 y) := by kernel_rfl

noncomputable def Ct42 : Ctx := ⟨Go.Proofs.Tryd.prog, D, Gt83, (fun _ _ => none), fun _ => []⟩
def annt42 (_k : List Int) (_f _b : Int) (_y : List Int) : Nat → St → Option Ann := fun _ _ => none
def outt42 (k : List Int) (f b : Int) (y : List Int) : COut := ⟨[], .tup [⟨.int .i64, (parK k f b y).1⟩, ⟨.bool, (parK k f b y).2⟩], [], []⟩
def spt42 : Spec := fun args ins => match args, ins with
  | [⟨.arr 16 (.int .u8), k⟩, ⟨.int .i64, f⟩, ⟨.int .i64, b⟩, ⟨.arr 4 (.int .i64), y⟩], [] => some (outt42 k f b y)
  | _, _ => none
def Gt42 := addG Gt83 42 spt42
def Pt42 (k : List Int) (f b : Int) (y : List Int) : Prop :=
 ∀ (b_1:Bool),decide (b<0)=b_1→bif bif b_1 then true else decide (8≤b) then (((!b_1)=true→(!b_1)=true)∧(b_1=false→(!b_1)=true)∧(true=false→false=true))∧0=(parK k f b y).1∧false=(parK k f b y).2 else (((!b_1)=true→(!b_1)=true)∧(b_1=false→(!b_1)=true))∧bif
 !decide (pulsesF y≤12) then 0=(parK k f b y).1∧false=(parK k f b y).2 else ((0≤b∧b<8)∧(0:Int)=0)∧∀ (b_2:Bool),decide (0<pulsesF y)=b_2→(pulsesF y≤12∧(4:Nat)≤9223372036854775807∧4=List.length y∧(b_2=true→b_2=true∧b_2=true)∧(b_2=true→b_2=true))∧oddF
 y (subK k f b)=(parK k f b y).1∧(bif b_2 then !Ty.eqb (Ty.arr (4:Nat) Ty.bool) (subK k f b) (true :: List.set (List.set (List.set (List.replicate (nat_lit 3) false) (nat_lit 0) true) (nat_lit 1) true) (nat_lit 2) true) else false)=(parK
 k f b y).2
theorem vct42 (k : List Int) (f b : Int) (y : List Int) : Pt42 k f b y = vcFun Ct42 (annt42 k f b y) Go.Proofs.Tryd.f42 [⟨.arr 16 (.int .u8), k⟩, ⟨.int .i64, f⟩, ⟨.int .i64, b⟩, ⟨.arr 4 (.int .i64), y⟩] [] (outt42 k f b y) := by kernel_rfl

noncomputable def Ct16 : Ctx := ⟨Go.Proofs.Tryd.prog, D, Gt42, (fun _ _ => none), fun _ => []⟩
def annt16 (k : List Int) (f : Int) : Nat → St → Option Ann := fun _ _ => some ⟨Nat, [4, 5, 6], [1], fun i => [(12, .v (.int .i64) (i : Int)), (7, .v (.int .i64) ((bandsTo (bandK k f) i).length : Int))], fun i => [(2, some ⟨false, true, .arr 7 (.int .i64), [bandsTo (bandK k f) i ++ List.replicate (7 - (bandsTo (bandK k f) i).length) 0]⟩)], fun i => i ≤ 8, fun i => 8 - i⟩
def outt16 (k : List Int) (f : Int) : COut := ⟨[], .v (.arr 7 (.int .i64)) (bandsK k f), [], []⟩
def spt16 : Spec := fun args ins => match args, ins with
  | [⟨.arr 16 (.int .u8), k⟩, ⟨.int .i64, f⟩], [] => some (outt16 k f)
  | _, _ => none
def Gt16 := addG Gt42 16 spt16
def Pt16 (k : List Int) (f : Int) : Prop :=
 ∃ (x:Nat),((0=0∧bandK k f=bandK k f∧0=0∧0=(↑ (List.length (bandsTo (bandK k f) x)):Int)∧0=(x:Int)∧(0:Int) :: List.replicate (nat_lit 6) (0:Int)=List.replicate 7 (0:Int)∧false=false∧(0:Int) :: List.replicate (nat_lit 6) (0:Int)=bandsTo
 (bandK k f) x ++ List.replicate (7 - List.length (bandsTo (bandK k f) x)) (0:Int)∧false=false)∧x≤8)∧∀ (x:Nat),x≤8→(IntKind.min .i64≤(x:Int)∧(x:Int)≤IntKind.max .i64∧IntKind.min .i64≤(↑ (List.length (bandsTo (bandK k f) x)):Int)∧(↑ (List.length
 (bandsTo (bandK k f) x)):Int)≤IntKind.max .i64∧∀ (y:List Int),List.Mem y [bandsTo (bandK k f) x ++ List.replicate (7 - List.length (bandsTo (bandK k f) x)) (0:Int)]→List.length y=7∧∀ (y_1:Int),List.Mem y_1 y→IntKind.min .i64≤y_1∧y_1≤IntKind.max
 .i64)→bif decide ((x:Int)<8) then bif !decide ((x:Int)=bandK k f) then ((0≤(↑ (List.length (bandsTo (bandK k f) x)):Int)∧(↑ (List.length (bandsTo (bandK k f) x)):Int)<(↑ (7:Nat):Int))∧(↑ (List.length (bandsTo (bandK k f) x)):Int).toNat<7)∧∃
 (y:Nat),(0=0∧bandK k f=bandK k f∧0=0∧IntKind.wrap .i64 ((↑ (List.length (bandsTo (bandK k f) x)):Int)+1)=(↑ (List.length (bandsTo (bandK k f) y)):Int)∧IntKind.wrap .i64 ((x:Int)+1)=(y:Int)∧(0:Int) :: List.replicate (nat_lit 6) (0:Int)=List.replicate
 7 (0:Int)∧false=false∧List.set (bandsTo (bandK k f) x ++ List.replicate (7 - List.length (bandsTo (bandK k f) x)) (0:Int)) (↑ (List.length (bandsTo (bandK k f) x)):Int).toNat (x:Int)=bandsTo (bandK k f) y ++ List.replicate (7 - List.length
 (bandsTo (bandK k f) y)) (0:Int)∧false=false)∧y≤8∧8 - y<8 - x else ∃ (y:Nat),(0=0∧bandK k f=bandK k f∧0=0∧(↑ (List.length (bandsTo (bandK k f) x)):Int)=(↑ (List.length (bandsTo (bandK k f) y)):Int)∧IntKind.wrap .i64 ((x:Int)+1)=(y:Int)∧(0:Int)
 :: List.replicate (nat_lit 6) (0:Int)=List.replicate 7 (0:Int)∧false=false∧List.append (bandsTo (bandK k f) x) (List.replicate (7 - List.length (bandsTo (bandK k f) x)) (0:Int))=bandsTo (bandK k f) y ++ List.replicate (7 - List.length
 (bandsTo (bandK k f) y)) (0:Int)∧false=false)∧y≤8∧8 - y<8 - x else List.append (bandsTo (bandK k f) x) (List.replicate (7 - List.length (bandsTo (bandK k f) x)) (0:Int))=bandsK k f
theorem vct16 (k : List Int) (f : Int) : Pt16 k f = vcFun Ct16 (annt16 k f) Go.Proofs.Tryd.f16 [⟨.arr 16 (.int .u8), k⟩, ⟨.int .i64, f⟩] [] (outt16 k f) := by kernel_rfl

noncomputable def Ct46 : Ctx := ⟨Go.Proofs.Tryd.prog, D, Gt16, (fun _ _ => none), fun _ => []⟩
def annt46 (y : List Int) : Nat → St → Option Ann := fun _ _ => some ⟨Nat, [6], [], fun i => [(7, .v (.int .i64) (i : Int)), (3, .v (.ref .slice) (.slice 1 (.int .u8) [] 0 i))], fun i => [(1, some ⟨false, false, .int .u8, (bytesY y).take i⟩)], fun i => i ≤ 4, fun i => 4 - i⟩
def outt46 (y : List Int) : COut := ⟨[], .v .str (bytesOf (bytesY y)), [], []⟩
def spt46 : Spec := fun args ins => match args, ins with
  | [⟨.arr 4 (.int .i64), y⟩], [] => some (outt46 y)
  | _, _ => none
def Gt46 := addG Gt16 46 spt46
def Pt46 (y : List Int) : Prop :=
 ∃ (x:Nat),((x=0∧y=y∧0=(x:Int)∧List.take x (bytesY y)=[])∧x≤4)∧∀ (x:Nat),x≤4→(IntKind.min .i64≤(x:Int)∧(x:Int)≤IntKind.max .i64∧∀ (y_1:Int),List.Mem y_1 (List.take x (bytesY y))→IntKind.min .u8≤y_1∧y_1≤IntKind.max .u8)→bif decide ((x:Int)<4)
 then (0≤(x:Int)∧(x:Int)<(↑ (4:Nat):Int))∧((1:Nat)≤1∧0+x=List.length (List.take x (bytesY y))∧(x+List.length (seg (IntKind.wrap .u8 (IntKind.wrap .i64 (List.getD y (x:Int).toNat (0:Int)+128)) :: List.replicate (nat_lit 0) (0:Int)) (0:Nat)
 (1:Nat))) * 1≤70368744177664)∧∃ (y_1:Nat),(0=0∧x+List.length (seg (IntKind.wrap .u8 (IntKind.wrap .i64 (List.getD y (x:Int).toNat (0:Int)+128)) :: List.replicate (nat_lit 0) (0:Int)) (0:Nat) (1:Nat))=y_1∧y=y∧IntKind.wrap .i64 ((x:Int)+1)=(y_1:Int)∧List.append
 (List.drop (0:Nat) (List.take x (bytesY y))) (seg (IntKind.wrap .u8 (IntKind.wrap .i64 (List.getD y (x:Int).toNat (0:Int)+128)) :: List.replicate (nat_lit 0) (0:Int)) (0:Nat) (1:Nat))=List.take y_1 (bytesY y)∧false=false)∧y_1≤4∧4 -
 y_1<4 - x else 0+x≤List.length (List.take x (bytesY y))∧bytesOf (seg (List.take x (bytesY y)) (0:Nat) x)=bytesOf (bytesY y)
theorem vct46 (y : List Int) : Pt46 y = vcFun Ct46 (annt46 y) Go.Proofs.Tryd.f46 [⟨.arr 4 (.int .i64), y⟩] [] (outt46 y) := by kernel_rfl

noncomputable def Ct17 : Ctx := ⟨Go.Proofs.Tryd.prog, D, Gt46, (fun _ _ => none), fun _ => []⟩
def annt17 (_k : List Int) (p : Int × List Int × List (List Int)) : Nat → St → Option Ann := fun _ _ => some ⟨Nat, [2, 3, 21], [0, 1], fun i => [(22, .v (.int .i64) (i : Int)), (5, .v .str (bytesOf (111 :: (p.1 / 256 % 256) :: (p.1 % 256) :: (p.2.1.take i).map (· % 256))))], fun _ => [], fun i => i ≤ 8, fun i => 8 - i⟩
def outt17 (k : List Int) (p : Int × List Int × List (List Int)) : COut := ⟨[], .v (.int .i64) (ownK k p.1 p.2), [], []⟩
def spt17 : Spec := fun args ins => match args, ins with
  | [⟨.arr 16 (.int .u8), k⟩, ⟨(.cons (.int .i64) (.last (.cons (.arr 8 (.int .i64)) (.last (.arr 8 (.arr 4 (.int .i64))))))), p⟩], [] => some (outt17 k p)
  | _, _ => none
def Gt17 := addG Gt46 17 spt17
def Pt17 (k : List Int) (p : Int × List Int × List (List Int)) : Prop :=
 ((0:Int)≤8∧(2:Nat)≤2∧1+ByteArray.size (bytesOf (seg (IntKind.wrap .u8 (ishr .i64 p.1 (8:Int)) :: List.set (List.replicate (nat_lit 1) (0:Int)) (nat_lit 0) (IntKind.wrap .u8 p.1)) (0:Nat) (2:Nat)))≤9223372036854775807)∧∃ (x:Nat),((0=0∧0=0∧ByteArray.append
 {data := {toList := [(111:UInt8)]}} (bytesOf (seg (IntKind.wrap .u8 (ishr .i64 p.1 (8:Int)) :: List.set (List.replicate (nat_lit 1) (0:Int)) (nat_lit 0) (IntKind.wrap .u8 p.1)) (0:Nat) (2:Nat)))=bytesOf ((111:Int) :: p.1 / 256 % 256
 :: p.1 % 256 :: List.map (fun (x:Int) => x % 256) (List.take x p.2.1))∧p.2.1=p.2.1∧0=(x:Int)∧k=k∧false=false∧p.1=p.1∧p.2.1=p.2.1∧p.2.2=p.2.2∧false=false)∧x≤8)∧∀ (x:Nat),x≤8→IntKind.min .i64≤(x:Int)∧(x:Int)≤IntKind.max .i64∧ByteArray.size
 (bytesOf ((111:Int) :: p.1 / 256 % 256 :: p.1 % 256 :: List.map (fun (x:Int) => x % 256) (List.take x p.2.1)))≤9223372036854775807→bif decide ((x:Int)<8) then (0≤(x:Int)∧(x:Int)<(↑ (8:Nat):Int))∧((1:Nat)≤1∧ByteArray.size (bytesOf ((111:Int)
 :: p.1 / 256 % 256 :: p.1 % 256 :: List.map (fun (x:Int) => x % 256) (List.take x p.2.1)))+ByteArray.size (bytesOf (seg (IntKind.wrap .u8 (List.getD p.2.1 (x:Int).toNat (0:Int)) :: List.replicate (nat_lit 0) (0:Int)) (0:Nat) (1:Nat)))≤9223372036854775807)∧∃
 (y:Nat),(0=0∧0=0∧ByteArray.append (bytesOf ((111:Int) :: p.1 / 256 % 256 :: p.1 % 256 :: List.map (fun (x:Int) => x % 256) (List.take x p.2.1))) (bytesOf (seg (IntKind.wrap .u8 (List.getD p.2.1 (x:Int).toNat (0:Int)) :: List.replicate
 (nat_lit 0) (0:Int)) (0:Nat) (1:Nat)))=bytesOf ((111:Int) :: p.1 / 256 % 256 :: p.1 % 256 :: List.map (fun (x:Int) => x % 256) (List.take y p.2.1))∧p.2.1=p.2.1∧IntKind.wrap .i64 ((x:Int)+1)=(y:Int)∧k=k∧false=false∧p.1=p.1∧p.2.1=p.2.1∧p.2.2=p.2.2∧false=false)∧y≤8∧8
 - y<8 - x else ((0:Int)≤6∧6<(↑ (7:Nat):Int))∧((0≤bandK k p.1∧bandK k p.1<(↑ (8:Nat):Int))∧(bandK k p.1).toNat<8∧(0≤List.getD (bandsK k p.1) (6:Nat) (0:Int)∧List.getD (bandsK k p.1) (6:Nat) (0:Int)<(↑ (8:Nat):Int))∧(List.getD (bandsK
 k p.1) (6:Nat) (0:Int)).toNat<8∧ByteArray.size (bytesOf (bytesY (List.getD p.2.2 (bandK k p.1).toNat (List.replicate 4 (0:Int)))))+ByteArray.size (bytesOf (bytesY (List.getD p.2.2 (List.getD (bandsK k p.1) (6:Nat) (0:Int)).toNat (List.replicate
 4 (0:Int)))))≤9223372036854775807∧ByteArray.size (bytesOf ((111:Int) :: p.1 / 256 % 256 :: p.1 % 256 :: List.map (fun (x:Int) => x % 256) (List.take x p.2.1)))+ByteArray.size (bytesOf (bytesY (List.getD p.2.2 (bandK k p.1).toNat (List.replicate
 4 (0:Int)))) ++ bytesOf (bytesY (List.getD p.2.2 (List.getD (bandsK k p.1) (6:Nat) (0:Int)).toNat (List.replicate 4 (0:Int)))))≤9223372036854775807)∧ByteArray.size (bytesOf ((111:Int) :: p.1 / 256 % 256 :: p.1 % 256 :: List.map (fun
 (x:Int) => x % 256) (List.take x p.2.1)) ++ (bytesOf (bytesY (List.getD p.2.2 (bandK k p.1).toNat (List.replicate 4 (0:Int)))) ++ bytesOf (bytesY (List.getD p.2.2 (List.getD (bandsK k p.1) (6:Nat) (0:Int)).toNat (List.replicate 4 (0:Int))))))≤1000000000∧IntKind.wrap
 .i64 (iand .u64 (sipF k (bytesOf ((111:Int) :: p.1 / 256 % 256 :: p.1 % 256 :: List.map (fun (x:Int) => x % 256) (List.take x p.2.1)) ++ (bytesOf (bytesY (List.getD p.2.2 (bandK k p.1).toNat (List.replicate 4 (0:Int)))) ++ bytesOf (bytesY
 (List.getD p.2.2 (List.getD (bandsK k p.1) (6:Nat) (0:Int)).toNat (List.replicate 4 (0:Int))))))) (7:Int))=ownK k p.1 p.2
theorem vct17 (k : List Int) (p : Int × List Int × List (List Int)) : Pt17 k p = vcFun Ct17 (annt17 k p) Go.Proofs.Tryd.f17 [⟨.arr 16 (.int .u8), k⟩, ⟨(.cons (.int .i64) (.last (.cons (.arr 8 (.int .i64)) (.last (.arr 8 (.arr 4 (.int .i64))))))), p⟩] [] (outt17 k p) := by kernel_rfl

noncomputable def Ct82 : Ctx := ⟨Go.Proofs.Tryd.prog, D, Gt17, (fun _ _ => none), fun _ => []⟩
def annt82 (_k : List Int) (_a : ByteArray) : Nat → St → Option Ann := fun _ _ => none
def outt82 (k : List Int) (a : ByteArray) : COut := ⟨[ByteArray.size a ≤ 1000000], .v (.int .i64) (aheadK k a), [], []⟩
def spt82 : Spec := fun args ins => match args, ins with
  | [⟨.arr 16 (.int .u8), k⟩, ⟨.str, a⟩], [] => some (outt82 k a)
  | _, _ => none
def Gt82 := addG Gt17 82 spt82
def Pt82 (k : List Int) (a : ByteArray) : Prop :=
 (1+ByteArray.size a≤9223372036854775807∧ByteArray.size ({data := {toList := [(97:UInt8)]}} ++ a)≤1000000000)∧IntKind.wrap .i64 (iand .u64 (sipF k ({data := {toList := [(97:UInt8)]}} ++ a)) (7:Int))=aheadK k a
theorem vct82 (k : List Int) (a : ByteArray) : Pt82 k a = vcFun Ct82 (annt82 k a) Go.Proofs.Tryd.f82 [⟨.arr 16 (.int .u8), k⟩, ⟨.str, a⟩] [] (outt82 k a) := by kernel_rfl

noncomputable def Ct41 : Ctx := ⟨Go.Proofs.Tryd.prog, D, Gt82, (fun _ _ => none), fun _ => []⟩
def annt41 (k : List Int) (p : Int × List Int × List (List Int)) (a : ByteArray) : Nat → St → Option Ann := fun _ _ => some ⟨Nat, [6, 7, 8, 9, 10], [2, 4], fun i => [(22, .v (.int .i64) (i : Int))], fun i => [(3, some ⟨false, true, .arr 6 (.cons (.int .i64) (.last (.int .i64))), [wishTo k p.1 (ownK k p.1 p.2) (aheadK k a) i]⟩)], fun i => i ≤ 3, fun i => 3 - i⟩
def outt41 (k : List Int) (p : Int × List Int × List (List Int)) (a : ByteArray) : COut := ⟨[ByteArray.size a ≤ 1000000], .v (.arr 6 (.cons (.int .i64) (.last (.int .i64)))) (wishTo k p.1 (ownK k p.1 p.2) (aheadK k a) 3), [], []⟩
def spt41 : Spec := fun args ins => match args, ins with
  | [⟨.arr 16 (.int .u8), k⟩, ⟨(.cons (.int .i64) (.last (.cons (.arr 8 (.int .i64)) (.last (.arr 8 (.arr 4 (.int .i64))))))), p⟩, ⟨.str, a⟩], [] => some (outt41 k p a)
  | _, _ => none
def Gt41 := addG Gt82 41 spt41
def Pt41 (k : List Int) (p : Int × List Int × List (List Int)) (a : ByteArray) : Prop :=
 ByteArray.size a≤1000000∧∃ (x:Nat),((0=0∧0=0∧ownK k p.1 (p.2.1,p.2.2)=ownK k p.1 (p.2.1,p.2.2)∧aheadK k a=aheadK k a∧0=0∧0=(x:Int)∧((0:Int),(0:Int)) :: List.replicate (nat_lit 5) ((0:Int),(0:Int))=List.replicate 6 ((0:Int),(0:Int))∧false=false∧((0:Int),(0:Int))
 :: List.replicate (nat_lit 5) ((0:Int),(0:Int))=wishTo k p.1 (ownK k p.1 p.2) (aheadK k a) x∧false=false∧bandsK k p.1=bandsK k p.1∧false=false)∧x≤3)∧∀ (x:Nat),x≤3→(IntKind.min .i64≤(x:Int)∧(x:Int)≤IntKind.max .i64∧∀ (y:List (Int × Int)),List.Mem
 y [wishTo k p.1 (ownK k p.1 p.2) (aheadK k a) x]→List.length y=6∧∀ (y_1:Int × Int),List.Mem y_1 y→IntKind.min .i64≤y_1.1∧y_1.1≤IntKind.max .i64∧IntKind.min .i64≤y_1.2∧y_1.2≤IntKind.max .i64)→bif decide ((x:Int)<3) then ((0≤(x:Int)∧(x:Int)<(↑
 (7:Nat):Int))∧(x:Int).toNat<7∧0≤(x:Int)∧(0≤(x:Int)∧(x:Int)<(↑ (6:Nat):Int))∧(x:Int).toNat<6)∧((0≤IntKind.wrap .i64 (3+(x:Int))∧IntKind.wrap .i64 (3+(x:Int))<(↑ (7:Nat):Int))∧(IntKind.wrap .i64 (3+(x:Int))).toNat<7∧0≤(x:Int)∧(0≤IntKind.wrap
 .i64 (3+(x:Int))∧IntKind.wrap .i64 (3+(x:Int))<(↑ (6:Nat):Int))∧(IntKind.wrap .i64 (3+(x:Int))).toNat<6)∧∃ (y:Nat),(0=0∧0=0∧ownK k p.1 (p.2.1,p.2.2)=ownK k p.1 (p.2.1,p.2.2)∧aheadK k a=aheadK k a∧0=0∧IntKind.wrap .i64 ((x:Int)+1)=(y:Int)∧((0:Int),(0:Int))
 :: List.replicate (nat_lit 5) ((0:Int),(0:Int))=List.replicate 6 ((0:Int),(0:Int))∧false=false∧List.set (List.set (wishTo k p.1 (ownK k p.1 p.2) (aheadK k a) x) (x:Int).toNat (List.getD (bandsK k p.1) (x:Int).toNat (0:Int),iand .i64
 (ishr .i64 (ownK k p.1 (p.2.1,p.2.2)) (x:Int)) (1:Int))) (IntKind.wrap .i64 (3+(x:Int))).toNat (List.getD (bandsK k p.1) (IntKind.wrap .i64 (3+(x:Int))).toNat (0:Int),iand .i64 (ishr .i64 (aheadK k a) (x:Int)) (1:Int))=wishTo k p.1
 (ownK k p.1 p.2) (aheadK k a) y∧false=false∧bandsK k p.1=bandsK k p.1∧false=false)∧y≤3∧3 - y<3 - x else wishTo k p.1 (ownK k p.1 p.2) (aheadK k a) x=wishTo k p.1 (ownK k p.1 p.2) (aheadK k a) (3:Nat)
theorem vct41 (k : List Int) (p : Int × List Int × List (List Int)) (a : ByteArray) : Pt41 k p a = vcFun Ct41 (annt41 k p a) Go.Proofs.Tryd.f41 [⟨.arr 16 (.int .u8), k⟩, ⟨(.cons (.int .i64) (.last (.cons (.arr 8 (.int .i64)) (.last (.arr 8 (.arr 4 (.int .i64))))))), p⟩, ⟨.str, a⟩] [] (outt41 k p a) := by kernel_rfl

end
end Go.SL.A

/- Tags: the code as plain conditions holds, part a. -/
namespace Go.SL.A
open Go Go.SL Go.SL.S
set_option maxRecDepth 100000

theorem sub0_at (X : Int) {i : Nat} (hi : i < 4) : (sub0 X)[i]? = some (bitX X i) := by
  unfold sub0; rw [List.getElem?_map, List.getElem?_range hi]; rfl
theorem any_snoc (p : List Bool) (b : Bool) : anyB (p ++ [b]) = (anyB p || b) := by
  unfold anyB; rw [List.any_append]; simp
theorem any_none {p : List Bool} (hl : p.length = 4) : anyB p = false ↔ p = List.replicate 4 false := by
  obtain ⟨a, b, c, d, rfl⟩ := four_b hl
  unfold anyB
  cases a <;> cases b <;> cases c <;> cases d <;> decide
theorem set_first {p : List Bool} (hl : p.length = 4) : List.set p 0 (bif p.getD 0 false then true else !true) = p := by
  obtain ⟨a, b, c, d, rfl⟩ := four_b hl
  cases a <;> rfl
theorem sub_fix (X : Int) : List.set (sub0 X) 0 (bif List.getD (sub0 X) 0 false then true else !anyB (sub0 X)) = subX X := by
  have hl := sub0_len X
  unfold subX
  generalize sub0 X = p at *
  by_cases hn : p = List.replicate 4 false
  · rw [if_pos hn, hn]; rfl
  · rw [if_neg hn]
    have : anyB p = true := by
      cases hq : anyB p with
      | true => rfl
      | false => exact absurd ((any_none hl).1 hq) hn
    rw [this]
    exact set_first hl
theorem puret84 (k : List Int) (f b c : Int) (hp : (0 ≤ b ∧ b < 8) ∧ c = 0) : Pt84 k f b c := by
  obtain ⟨hb, rfl⟩ := hp
  unfold Pt84
  rw [subK_eq]
  have w1 : IntKind.i64.wrap (f % 1016 * 8) = f % 1016 * 8 := w64 (by omega) (by omega)
  have w2 : IntKind.i64.wrap (f % 1016 * 8 + b) = f % 1016 * 8 + b := w64 (by omega) (by omega)
  have w3 : IntKind.i64.wrap (4 * 0) = 0 := by decide
  simp only [w1, w2, w3, eq_self, true_and, and_true, Int.toNat_natCast, Int.zero_add]
  generalize numK k 115 (f % 1016 * 8 + b) = X
  have hl := sub0_len X
  have ha : ∀ i, i < 4 → (sub0 X)[i]? = some (bitX X i) := fun i hi => sub0_at X hi
  rintro b1 rfl b2 rfl b3 rfl
  rw [decide_eq_false (show ¬ b < 0 by omega), decide_eq_false (show ¬ 8 ≤ b by omega), decide_eq_false (show ¬ (0 : Int) < 0 by omega), decide_eq_false (show ¬ (7 : Int) < 0 by omega)]
  simp only [cond_false]
  refine ⟨by simp, 0, ⟨⟨rfl, rfl, rfl, rfl⟩, by omega⟩, fun i hi hw => ?_⟩
  clear hw
  have wi : IntKind.i64.wrap (i : Int) = (i : Int) := w64 (by omega) (by omega)
  by_cases h : (i : Int) < 4
  · have hv := ha i (by omega)
    have e1 := set_step (s := sub0 X) (f := List.replicate 4 false) (k := i) (by omega) (by rw [List.length_replicate]; omega) hv
    rw [decide_eq_true h, cond_true, wi, Int.toNat_natCast, e1]
    refine ⟨⟨⟨by omega, by omega⟩, ⟨by omega, by omega⟩, by omega⟩, ?_⟩
    rintro b4 rfl
    refine ⟨⟨fun h => ⟨h, by omega, by omega⟩, fun h => ⟨h, by omega⟩, fun h => by rw [h]; rfl⟩, i + 1, ⟨?_, step_i (by omega), rfl, rfl⟩, by omega, by omega⟩
    have e2 : (sub0 X).take (i + 1) = (sub0 X).take i ++ [bitX X i] := by rw [List.take_add_one, hv, Option.toList_some]
    have e3 : List.getD ((sub0 X).take (i + 1) ++ List.drop (i + 1) (List.replicate 4 false)) i false = bitX X i := by
      rw [e2, List.getD_eq_getElem?_getD, List.getElem?_append_left (by simp; omega), List.getElem?_append_right (by simp; omega)]
      have : i - ((sub0 X).take i).length = 0 := by simp; omega
      rw [this, List.getElem?_cons_zero, Option.getD_some]
    rw [e3, e2, any_snoc]
    generalize bitX X i = q
    cases anyB ((sub0 X).take i) <;> rfl
  · have : i = 4 := by omega
    subst this
    rw [decide_eq_false h, cond_false]
    have e4 : (sub0 X).take 4 ++ List.drop 4 (List.replicate 4 false) = sub0 X := by
      rw [List.take_of_length_le (by omega), List.drop_eq_nil_of_le (by rw [List.length_replicate]; omega), List.append_nil]
    rw [e4, List.take_of_length_le (by omega)]
    rintro b4 rfl
    refine ⟨⟨⟨by omega, by omega⟩, by omega, fun h => h, fun h => by rw [h]; rfl, ⟨by omega, by omega⟩, by omega⟩, ?_⟩
    exact sub_fix X
theorem hwt83 {y : List Int} (hw : Go.SL.allP (List.flatMap (fun a : AV => a.t.wf a.x) [⟨.arr 4 (.int .i64), y⟩] ++ List.flatMap Blk.wf [])) : y.length = 4 := by
  simp only [List.flatMap_cons, List.flatMap_nil, Ty.wf, List.append_nil, Go.SL.allP] at hw
  exact hw.1
theorem hwt85 {y : List Int} {p : List Bool} (hw : Go.SL.allP (List.flatMap (fun a : AV => a.t.wf a.x) [⟨.arr 4 (.int .i64), y⟩, ⟨.arr 4 .bool, p⟩] ++ List.flatMap Blk.wf [])) : y.length = 4 := by
  simp only [List.flatMap_cons, List.flatMap_nil, Ty.wf, List.append_nil, List.cons_append, List.nil_append, Go.SL.allP] at hw
  exact hw.1
theorem hwt42 {k : List Int} {f b : Int} {y : List Int} (hw : Go.SL.allP (List.flatMap (fun a : AV => a.t.wf a.x) [⟨.arr 16 (.int .u8), k⟩, ⟨.int .i64, f⟩, ⟨.int .i64, b⟩, ⟨.arr 4 (.int .i64), y⟩] ++ List.flatMap Blk.wf [])) : y.length = 4 := by
  simp only [List.flatMap_cons, List.flatMap_nil, Ty.wf, List.append_nil, List.cons_append, List.nil_append, Go.SL.allP] at hw
  obtain ⟨-, -, -, -, -, -, h, -⟩ := hw
  exact h
theorem hwt17 {k : List Int} {p : Int × List Int × List (List Int)} (hw : Go.SL.allP (List.flatMap (fun a : AV => a.t.wf a.x) [⟨.arr 16 (.int .u8), k⟩, ⟨(.cons (.int .i64) (.last (.cons (.arr 8 (.int .i64)) (.last (.arr 8 (.arr 4 (.int .i64))))))), p⟩] ++ List.flatMap Blk.wf [])) : p.2.1.length = 8 ∧ ∀ y ∈ p.2.2, y.length = 4 := by
  simp only [List.flatMap_cons, List.flatMap_nil, Ty.wf, List.append_nil, List.cons_append, List.nil_append, Go.SL.allP] at hw
  obtain ⟨-, -, -, -, h, -, -, h2⟩ := hw
  exact ⟨h, fun y hy => (h2 y hy).1⟩
theorem entry_fit {y : List Int} (hl : y.length = 4) (hq : pulsesF y ≤ 12) {i : Nat} (hi : i < 4) : -12 ≤ y.getD i 0 ∧ y.getD i 0 ≤ 12 := by
  have hs : sumSz y ≤ 12 := by unfold pulsesF at hq; split at hq <;> omega
  have := part_le hl hi
  have := absSz (x := y.getD i 0) (by omega)
  unfold absZ at this
  omega
theorem puret85 (y : List Int) (p : List Bool) (hp : pulsesF y ≤ 12) (hl : y.length = 4) : Pt85 y p := by
  unfold Pt85
  simp only [eq_self, true_and, and_true, Int.toNat_natCast]
  have hb : ∀ i, i ≤ 4 → oddN y p i ≤ 12 * (i : Int) := by
    intro i
    induction i with
    | zero => intro _; rw [oddN]; omega
    | succ i ih =>
      intro hi
      have h1 := ih (by omega)
      have h2 := entry_fit hl hp (i := i) (by omega)
      rw [oddN]
      unfold absZ
      split <;> omega
  refine ⟨0, ⟨⟨rfl, rfl⟩, by omega⟩, fun i hi hw => ?_⟩
  clear hw
  have h0 := odd_fit y p i
  have h1 := hb i hi
  by_cases h : (i : Int) < 4
  · have he := entry_fit hl hp (i := i) (by omega)
    have hst : oddN y p (i + 1) = oddN y p i + if p.getD i false then absZ (y.getD i 0) else 0 := rfl
    rw [decide_eq_true h, cond_true]
    refine ⟨⟨by omega, by omega⟩, ?_⟩
    cases hpi : p.getD i false with
    | true =>
      rw [hpi, if_pos rfl] at hst
      unfold absZ at hst
      rw [cond_true]
      refine ⟨⟨⟨by omega, by omega⟩, by omega, ⟨by omega, by omega⟩, by omega⟩, i + 1, ⟨?_, step_i (by omega)⟩, by omega, by omega⟩
      have e1 : IntKind.i64.wrap (0 - y.getD i 0) = 0 - y.getD i 0 := w64 (by omega) (by omega)
      rw [e1, w64 (by omega) (by omega), hst]
      omega
    | false =>
      rw [hpi, if_neg (by decide)] at hst
      rw [cond_false]
      exact ⟨i + 1, ⟨by rw [hst]; omega, step_i (by omega)⟩, by omega, by omega⟩
  · have : i = 4 := by omega
    subst this
    rw [decide_eq_false h, cond_false]
    refine ⟨by decide, ?_⟩
    unfold oddF
    have := tdm (oddN y p 4) (k := 2) (by omega)
    omega
theorem puret83 (y : List Int) (hl : y.length = 4) : Pt83 y := by
  unfold Pt83
  exact ⟨⟨by omega, by omega⟩, rfl⟩
theorem eqb4b {p q : List Bool} (hp : p.length = 4) (hq : q.length = 4) : Ty.eqb (.arr 4 .bool) p q = decide (p = q) := by
  obtain ⟨a, b, c, d, rfl⟩ := four_b hp
  obtain ⟨a', b', c', d', rfl⟩ := four_b hq
  revert a b c d a' b' c' d'
  decide +kernel
theorem puret42 (k : List Int) (f b : Int) (y : List Int) (hl : y.length = 4) : Pt42 k f b y := by
  unfold Pt42
  rintro b1 rfl
  by_cases c : b < 0 ∨ 8 ≤ b
  · have e : (bif decide (b < 0) then true else decide (8 ≤ b)) = true := by
      rcases c with c | c
      · rw [decide_eq_true c]; rfl
      · rw [decide_eq_true c]; cases decide (b < 0) <;> rfl
    rw [e, cond_true]
    have : parK k f b y = (0, false) := by
      unfold parK
      rw [if_pos]
      rcases c with c | c
      · rw [decide_eq_true c]; rfl
      · rw [decide_eq_true c]; simp
    rw [this]
    exact ⟨⟨fun h => h, fun h => by rw [h]; rfl, fun h => by cases h⟩, rfl, rfl⟩
  · rw [decide_eq_false (show ¬ b < 0 by omega), decide_eq_false (show ¬ 8 ≤ b by omega)]
    simp only [cond_false]
    refine ⟨by simp, ?_⟩
    by_cases hq : pulsesF y ≤ 12
    · rw [decide_eq_true hq, Bool.not_true, cond_false]
      refine ⟨⟨by omega, trivial⟩, ?_⟩
      rintro b2 rfl
      have hk : parK k f b y = (oddF y (subK k f b), decide (0 < pulsesF y) && !decide (subK k f b = List.replicate 4 true)) := by
        unfold parK
        rw [if_neg]
        rw [decide_eq_false (show ¬ b < 0 by omega), decide_eq_false (show ¬ 8 ≤ b by omega), decide_eq_false (show ¬ 12 < pulsesF y by omega)]
        decide
      rw [hk]
      refine ⟨⟨hq, by omega, by omega, fun h => ⟨h, h⟩, fun h => h⟩, rfl, ?_⟩
      have e : (true :: List.set (List.set (List.set (List.replicate (nat_lit 3) false) (nat_lit 0) true) (nat_lit 1) true) (nat_lit 2) true) = List.replicate 4 true := rfl
      rw [e, eqb4b (show (subK k f b).length = 4 by rw [subK_eq]; exact sub_len _) rfl]
      cases decide (0 < pulsesF y) <;> rfl
    · rw [decide_eq_false hq, Bool.not_false, cond_true]
      have : parK k f b y = (0, false) := by
        unfold parK
        rw [if_pos]
        rw [decide_eq_true (show 12 < pulsesF y by omega)]; simp
      rw [this]
      exact ⟨rfl, rfl⟩
theorem bands_snoc (o : Int) (i : Nat) : bandsTo o (i + 1) = bandsTo o i ++ if (i : Int) = o then [] else [(i : Int)] := by
  unfold bandsTo
  rw [← iota_step, List.filter_append]
  congr 1
  by_cases e : (i : Int) = o
  · rw [if_pos e, List.filter_cons_of_neg (by simp [e]), List.filter_nil]
  · rw [if_neg e, List.filter_cons_of_pos (by simp [e]), List.filter_nil]
theorem bands_len {o : Int} (ho : 0 ≤ o) : ∀ i : Nat, ((bandsTo o i).length : Int) = if (i : Int) ≤ o then (i : Int) else (i : Int) - 1
  | 0 => by rw [if_pos (by omega)]; rfl
  | i + 1 => by
    have ih := bands_len ho i
    rw [bands_snoc, List.length_append]
    by_cases e : (i : Int) = o
    · rw [if_pos e, if_neg (by omega)]
      rw [if_pos (by omega)] at ih
      simp only [List.length_nil]; omega
    · rw [if_neg e]
      simp only [List.length_cons, List.length_nil]
      split at ih
      · rw [if_pos (by omega)]; omega
      · rw [if_neg (by omega)]; omega
theorem puret16 (k : List Int) (f : Int) : Pt16 k f := by
  unfold Pt16
  have ho := band_fit k f
  have hB : bandsK k f = bandsTo (bandK k f) 8 := rfl
  rw [hB]
  generalize bandK k f = o at *
  have z : (0 : Int) :: List.replicate 6 0 = List.replicate 7 0 := rfl
  simp only [eq_self, true_and, and_true, Int.toNat_natCast, z]
  have hn := fun i : Nat => bands_len ho.1 i
  refine ⟨0, ⟨⟨rfl, rfl, rfl⟩, by omega⟩, fun i hi hw => ?_⟩
  clear hw
  have h1 := hn i
  have h2 := hn (i + 1)
  by_cases h : (i : Int) < 8
  · rw [decide_eq_true h, cond_true]
    have hs := bands_snoc o i
    by_cases e : (i : Int) = o
    · rw [if_pos e, List.append_nil] at hs
      rw [decide_eq_true e, Bool.not_true, cond_false]
      exact ⟨i + 1, ⟨by rw [hs], step_i (by omega), by rw [hs]; rfl⟩, by omega, by omega⟩
    · rw [if_neg e] at hs
      rw [decide_eq_false e, Bool.not_false, cond_true]
      have hl : (bandsTo o i).length < 7 := by split at h1 <;> omega
      have hl2 : (bandsTo o (i + 1)).length = (bandsTo o i).length + 1 := by rw [hs]; simp
      refine ⟨⟨⟨by omega, by omega⟩, hl⟩, i + 1, ⟨?_, step_i (by omega), ?_⟩, by omega, by omega⟩
      · rw [step_i (by omega), hl2]
      · rw [hl2, hs, List.set_append_right _ _ (by omega), Nat.sub_self, List.append_assoc]
        congr 1
        have e7 : 7 - (bandsTo o i).length = 7 - ((bandsTo o i).length + 1) + 1 := by omega
        rw [e7, List.replicate_succ, List.set_cons_zero]
        rfl
  · have : i = 8 := by omega
    subst this
    rw [decide_eq_false h, cond_false]
    have hl : (bandsTo o 8).length = 7 := by rw [if_neg (by omega)] at h1; omega
    show bandsTo o 8 ++ _ = _
    rw [hl, Nat.sub_self, List.replicate_zero, List.append_nil]
theorem bytesY_len (y : List Int) : (bytesY y).length = y.length := by simp [bytesY]
theorem bytesY_at {y : List Int} {i : Nat} (hi : i < y.length) : (bytesY y).take (i + 1) = (bytesY y).take i ++ [(y.getD i 0 + 128) % 256] := by
  have : (bytesY y)[i]? = some ((y.getD i 0 + 128) % 256) := by
    unfold bytesY
    rw [List.getElem?_map, List.getD_eq_getElem?_getD, List.getElem?_eq_getElem hi]; rfl
  rw [List.take_add_one, this]; rfl
theorem wrap_two (x : Int) : IntKind.u8.wrap (IntKind.i64.wrap x) = x % 256 := by
  rw [wrap_u8]
  have e : ∃ q, IntKind.i64.wrap x = x - 18446744073709551616 * q := by
    simp only [IntKind.wrap, IntKind.bits, IntKind.signed]
    simp
    split
    · exact ⟨x / 18446744073709551616 + 1, by omega⟩
    · exact ⟨x / 18446744073709551616, by omega⟩
  obtain ⟨q, e⟩ := e
  rw [e]; omega
theorem puret46 (y : List Int) (hl : y.length = 4) : Pt46 y := by
  unfold Pt46
  simp only [eq_self, true_and, and_true, Int.toNat_natCast]
  refine ⟨0, ⟨⟨rfl, rfl, rfl⟩, by omega⟩, fun i hi hw => ?_⟩
  clear hw
  have hlt : ((bytesY y).take i).length = i := by rw [List.length_take, bytesY_len]; omega
  by_cases h : (i : Int) < 4
  · rw [decide_eq_true h, cond_true]
    refine ⟨⟨by omega, by omega⟩, ⟨by omega, by omega, ?_⟩, i + 1, ⟨?_, step_i (by omega), ?_⟩, by omega, by omega⟩
    · rw [List.replicate_zero, show seg [IntKind.u8.wrap (IntKind.i64.wrap (y.getD i 0 + 128))] 0 1 = [IntKind.u8.wrap (IntKind.i64.wrap (y.getD i 0 + 128))] from rfl, List.length_singleton]; omega
    · rfl
    · rw [List.drop_zero, bytesY_at (by omega), wrap_two]; rfl
  · have : i = 4 := by omega
    subst this
    rw [decide_eq_false h, cond_false]
    refine ⟨by omega, ?_⟩
    rw [List.take_of_length_le (by rw [bytesY_len]; omega)]
    unfold seg
    rw [List.drop_zero, List.take_of_length_le (by rw [bytesY_len]; omega)]
theorem iand7 {x : Int} (hx : 0 ≤ x ∧ x < 18446744073709551616) : IntKind.i64.wrap (iand .u64 x 7) = x % 8 := by
  have e : iand .u64 x 7 = x % 8 := by
    unfold iand
    have := and_num x 3 (by decide)
    have e7 : ((2 ^ 3 - 1 : Nat) : Int) = 7 := by decide
    rw [e7] at this
    show IntKind.u64.wrap ((BitVec.ofInt 64 x &&& BitVec.ofInt 64 7).toNat : Int) = _
    rw [this]
    have e8 : (2 : Nat) ^ 3 = 8 := by decide
    rw [e8]
    have : ((x % 18446744073709551616).toNat % 8 : Nat) < 8 := Nat.mod_lt _ (by omega)
    simp only [IntKind.wrap, IntKind.bits, IntKind.signed]
    simp <;> omega
  rw [e, w64 (by omega) (by omega)]
theorem puret82 (k : List Int) (a : ByteArray) (hp : ByteArray.size a ≤ 1000000) : Pt82 k a := by
  unfold Pt82
  have e : ({ data := { toList := [(97 : UInt8)] } } : ByteArray) = bytesOf [97] := rfl
  rw [e]
  have hs : ByteArray.size (bytesOf [97] ++ a) = 1 + ByteArray.size a := by rw [ByteArray.size_append]; rfl
  refine ⟨⟨by omega, by rw [hs]; omega⟩, ?_⟩
  rw [iand7 (sip_fit _ _)]; rfl
theorem shr_div (x : Int) (n : Nat) (hn : n ≤ 64) : ishr .i64 x (n : Int) = x / 2 ^ n := by
  unfold ishr
  have e : min (Int.toNat (n : Int)) IntKind.i64.bits = n := by
    have : IntKind.i64.bits = 64 := rfl
    omega
  rw [e, Int.fdiv_eq_ediv_of_nonneg _ (Int.le_of_lt (Int.pow_pos (by decide)))]
theorem iand_one (x : Int) : iand .i64 x 1 = x % 2 := by
  unfold iand
  have := and_num x 1 (by decide)
  have e7 : ((2 ^ 1 - 1 : Nat) : Int) = 1 := by decide
  rw [e7] at this
  show IntKind.i64.wrap ((BitVec.ofInt 64 x &&& BitVec.ofInt 64 1).toNat : Int) = _
  rw [this]
  have e8 : (2 : Nat) ^ 1 = 2 := by decide
  rw [e8]
  have : ((x % 18446744073709551616).toNat % 2 : Nat) < 2 := Nat.mod_lt _ (by omega)
  rw [w64 (by omega) (by omega)]
  omega
theorem seg_two (a b : Int) : seg (a :: List.set (List.replicate (nat_lit 1) 0) (nat_lit 0) b) 0 2 = [a, b] := rfl
theorem seg_o (a : Int) : seg (a :: List.replicate (nat_lit 0) 0) 0 1 = [a] := rfl
theorem puret17 (k : List Int) (p : Int × List Int × List (List Int)) (hl : p.2.1.length = 8 ∧ ∀ y ∈ p.2.2, y.length = 4) : Pt17 k p := by
  obtain ⟨f, S, Y⟩ := p
  obtain ⟨hl, h4⟩ := hl
  unfold Pt17
  dsimp only at hl h4 ⊢
  have e8 : ishr .i64 f 8 = f / 256 := by
    have := shr_div f 8 (by omega)
    have e : (2 : Int) ^ 8 = 256 := by decide
    rw [e] at this; exact this
  have a1 : (({ data := { toList := [(111 : UInt8)] } } : ByteArray)) = bytesOf [111] := rfl
  have hb := band_fit k f
  have B := bands_ok k f
  have hA : ∀ a b : ByteArray, a ++ b = ByteArray.append a b := fun _ _ => rfl
  simp only [eq_self, true_and, and_true, Int.toNat_natCast, e8, wrap_u8, seg_two, seg_o, a1, hA, bytes_append, size_of, List.length_cons, List.length_nil, List.length_append, List.length_map, List.length_take, bytesY_len]
  have hr : ∀ i, (List.getD Y i (List.replicate 4 0)).length = 4 := fun i => by
    by_cases hi : i < Y.length
    · exact h4 _ (getD_mem hi)
    · rw [List.getD_eq_getElem?_getD, List.getElem?_eq_none (by omega)]; rfl
  have hb6 := B.fit 6 (by omega)
  refine ⟨⟨by omega, by omega, by omega⟩, 0, ⟨⟨by simp, rfl⟩, by omega⟩, fun i hi hw => ?_⟩
  clear hw
  by_cases h : (i : Int) < 8
  · rw [decide_eq_true h, cond_true]
    refine ⟨⟨by omega, by omega⟩, ⟨by omega, by omega⟩, i + 1, ⟨?_, step_i (by omega)⟩, by omega, by omega⟩
    rw [take_snoc' 0 (show i < S.length by omega), List.map_append]; rfl
  · have : i = 8 := by omega
    subst this
    rw [decide_eq_false h, cond_false, hr, hr]
    refine ⟨⟨by omega, by omega⟩, ⟨⟨by omega, by omega⟩, by omega, ⟨by omega, by omega⟩, by omega, by omega, by omega⟩, by omega, ?_⟩
    rw [iand7 (sip_fit _ _), List.take_of_length_le (by omega)]
    unfold ownK ownB rowZ
    simp only [List.cons_append]
/-- Six wishes, of which the first of each kind have been made. -/
def gTo (g : Nat → Int × Int) (i : Nat) : List (Int × Int) := (List.range 6).map fun j => if j < i ∨ (3 ≤ j ∧ j < 3 + i) then g j else (0, 0)
theorem wish_step (g : Nat → Int × Int) : ∀ {i : Nat}, i < 3 → List.set (List.set (gTo g i) i (g i)) (3 + i) (g (3 + i)) = gTo g (i + 1)
  | 0, _ => rfl
  | 1, _ => rfl
  | 2, _ => rfl
theorem wish_low (own back : Int) {i : Nat} (hi : i < 3) : iand .i64 (ishr .i64 own (i : Int)) 1 = wishBit own back i := by
  rw [shr_div _ _ (by omega), iand_one]
  unfold wishBit; rw [if_pos hi]
theorem wish_high (own back : Int) {i : Nat} (hi : i < 3) : iand .i64 (ishr .i64 back (i : Int)) 1 = wishBit own back (3 + i) := by
  rw [shr_div _ _ (by omega), iand_one]
  unfold wishBit; rw [if_neg (by omega), show 3 + i - 3 = i by omega]
theorem puret41 (k : List Int) (p : Int × List Int × List (List Int)) (a : ByteArray) (hp : ByteArray.size a ≤ 1000000) : Pt41 k p a := by
  unfold Pt41
  have z : ((0 : Int), (0 : Int)) :: List.replicate 5 (0, 0) = List.replicate 6 (0, 0) := rfl
  have e1 : ownK k p.1 (p.2.1, p.2.2) = ownK k p.1 p.2 := rfl
  simp only [eq_self, true_and, and_true, Int.toNat_natCast, z, e1]
  generalize ownK k p.1 p.2 = own
  generalize aheadK k a = back
  have hg : ∀ i, wishTo k p.1 own back i = gTo (fun j => ((bandsK k p.1).getD j 0, wishBit own back j)) i := fun i => rfl
  simp only [hg]
  refine ⟨hp, 0, ⟨⟨rfl, rfl⟩, by omega⟩, fun i hi hw => ?_⟩
  clear hw
  by_cases h : (i : Int) < 3
  · have hi3 : i < 3 := by omega
    have w : IntKind.i64.wrap (3 + (i : Int)) = ((3 + i : Nat) : Int) := by rw [w64 (by omega) (by omega)]; omega
    rw [decide_eq_true h, cond_true, w, Int.toNat_natCast, wish_low own back hi3, wish_high own back hi3]
    refine ⟨⟨⟨by omega, by omega⟩, by omega, by omega, ⟨by omega, by omega⟩, by omega⟩, ⟨⟨by omega, by omega⟩, by omega, by omega, ⟨by omega, by omega⟩, by omega⟩, i + 1, ⟨step_i (by omega), ?_⟩, by omega, by omega⟩
    exact wish_step (fun j => ((bandsK k p.1).getD j 0, wishBit own back j)) hi3
  · have : i = 3 := by omega
    subst this
    rw [decide_eq_false h, cond_false]
end Go.SL.A

/- Functions do what they are held to do. -/
namespace Go.SL.A
open Go Go.SL Go.SL.S
theorem sndt84 : Sound Go.Proofs.Tryd.prog Gt84 := sndd26.add ⟨_, Go.Proofs.Tryd.func84, by kernel_rfl, by kernel_rfl⟩ (by
  intro args ins out h hp
  unfold spt84 at h
  split at h
  · rename_i k f b c
    cases h
    exact vcFun_ok (C := Ct84) good sndd26 Meth.none mix Go.Proofs.Tryd.func84 (annt84 k f b c) (fun hw => by rw [← vct84 k f b c]; exact puret84 k f b c hp)
  · cases h)

theorem sndt85 : Sound Go.Proofs.Tryd.prog Gt85 := sndt84.add ⟨_, Go.Proofs.Tryd.func85, by kernel_rfl, by kernel_rfl⟩ (by
  intro args ins out h hp
  unfold spt85 at h
  split at h
  · rename_i y p
    cases h
    exact vcFun_ok (C := Ct85) good sndt84 Meth.none mix Go.Proofs.Tryd.func85 (annt85 y p) (fun hw => by rw [← vct85 y p]; exact puret85 y p hp (hwt85 hw))
  · cases h)

theorem sndt83 : Sound Go.Proofs.Tryd.prog Gt83 := sndt85.add ⟨_, Go.Proofs.Tryd.func83, by kernel_rfl, by kernel_rfl⟩ (by
  intro args ins out h hp
  unfold spt83 at h
  split at h
  · rename_i y
    cases h
    exact vcFun_ok (C := Ct83) good sndt85 Meth.none mix Go.Proofs.Tryd.func83 (annt83 y) (fun hw => by rw [← vct83 y]; exact puret83 y (hwt83 hw))
  · cases h)

theorem sndt42 : Sound Go.Proofs.Tryd.prog Gt42 := sndt83.add ⟨_, Go.Proofs.Tryd.func42, by kernel_rfl, by kernel_rfl⟩ (by
  intro args ins out h hp
  unfold spt42 at h
  split at h
  · rename_i k f b y
    cases h
    exact vcFun_ok (C := Ct42) good sndt83 Meth.none mix Go.Proofs.Tryd.func42 (annt42 k f b y) (fun hw => by rw [← vct42 k f b y]; exact puret42 k f b y (hwt42 hw))
  · cases h)

theorem sndt16 : Sound Go.Proofs.Tryd.prog Gt16 := sndt42.add ⟨_, Go.Proofs.Tryd.func16, by kernel_rfl, by kernel_rfl⟩ (by
  intro args ins out h hp
  unfold spt16 at h
  split at h
  · rename_i k f
    cases h
    exact vcFun_ok (C := Ct16) good sndt42 Meth.none mix Go.Proofs.Tryd.func16 (annt16 k f) (fun hw => by rw [← vct16 k f]; exact puret16 k f)
  · cases h)

theorem sndt46 : Sound Go.Proofs.Tryd.prog Gt46 := sndt16.add ⟨_, Go.Proofs.Tryd.func46, by kernel_rfl, by kernel_rfl⟩ (by
  intro args ins out h hp
  unfold spt46 at h
  split at h
  · rename_i y
    cases h
    exact vcFun_ok (C := Ct46) good sndt16 Meth.none mix Go.Proofs.Tryd.func46 (annt46 y) (fun hw => by rw [← vct46 y]; exact puret46 y (hwt83 hw))
  · cases h)

theorem sndt17 : Sound Go.Proofs.Tryd.prog Gt17 := sndt46.add ⟨_, Go.Proofs.Tryd.func17, by kernel_rfl, by kernel_rfl⟩ (by
  intro args ins out h hp
  unfold spt17 at h
  split at h
  · rename_i k p
    cases h
    exact vcFun_ok (C := Ct17) good sndt46 Meth.none mix Go.Proofs.Tryd.func17 (annt17 k p) (fun hw => by rw [← vct17 k p]; exact puret17 k p (hwt17 hw))
  · cases h)

theorem sndt82 : Sound Go.Proofs.Tryd.prog Gt82 := sndt17.add ⟨_, Go.Proofs.Tryd.func82, by kernel_rfl, by kernel_rfl⟩ (by
  intro args ins out h hp
  unfold spt82 at h
  split at h
  · rename_i k a
    cases h
    exact vcFun_ok (C := Ct82) good sndt17 Meth.none mix Go.Proofs.Tryd.func82 (annt82 k a) (fun hw => by rw [← vct82 k a]; exact puret82 k a hp)
  · cases h)

theorem sndt41 : Sound Go.Proofs.Tryd.prog Gt41 := sndt82.add ⟨_, Go.Proofs.Tryd.func41, by kernel_rfl, by kernel_rfl⟩ (by
  intro args ins out h hp
  unfold spt41 at h
  split at h
  · rename_i k p a
    cases h
    exact vcFun_ok (C := Ct41) good sndt82 Meth.none mix Go.Proofs.Tryd.func41 (annt41 k p a) (fun hw => by rw [← vct41 k p a]; exact puret41 k p a hp)
  · cases h)

end Go.SL.A

/- Functions and what they are held to do: bound to their code. -/
namespace Go.SL.A
open Go Go.SL Go.SL.S
set_option maxRecDepth 100000
noncomputable section
noncomputable def Ct124 : Ctx := ⟨Go.Proofs.Tryd.prog, D, Gt41, (fun _ _ => none), fun _ => []⟩
def annt124 (_y : List Int) (_j : Int) : Nat → St → Option Ann := fun _ _ => none
def outt124 (y : List Int) (j : Int) : COut := ⟨[(0 ≤ j ∧ j < 4) ∧ smallV y], .v (.ref .slice) (.slice 0 (.arr 4 (.int .i64)) [] 0 (gainL y j.toNat).length), [], [⟨false, false, .arr 4 (.int .i64), gainL y j.toNat⟩]⟩
def spt124 : Spec := fun args ins => match args, ins with
  | [⟨.arr 4 (.int .i64), y⟩, ⟨.int .i64, j⟩], [] => some (outt124 y j)
  | _, _ => none
def Gt124 := addG Gt41 124 spt124
def Pt124 (y : List Int) (j : Int) : Prop :=
 ((0≤j∧j<(↑ (4:Nat):Int))∧j.toNat<4∧(0≤j∧j<(↑ (4:Nat):Int))∧j.toNat<4)∧((0≤j∧j<(↑ (4:Nat):Int))∧j.toNat<4∧(0≤j∧j<(↑ (4:Nat):Int))∧j.toNat<4)∧((0≤j∧j<(↑ (4:Nat):Int))∧j.toNat<4)∧bif decide (0<List.getD y j.toNat (0:Int)) then 0=0∧1=List.length
 (gainL y j.toNat)∧List.set y j.toNat (IntKind.wrap .i64 (List.getD y j.toNat (0:Int)+1)) :: List.replicate (nat_lit 0) (List.replicate 4 (0:Int))=gainL y j.toNat∧false=false else ((0≤j∧j<(↑ (4:Nat):Int))∧j.toNat<4)∧bif decide (List.getD
 y j.toNat (0:Int)<0) then 0=0∧1=List.length (gainL y j.toNat)∧List.set y j.toNat (IntKind.wrap .i64 (List.getD y j.toNat (0:Int) - 1)) :: List.replicate (nat_lit 0) (List.replicate 4 (0:Int))=gainL y j.toNat∧false=false else 0=0∧2=List.length
 (gainL y j.toNat)∧List.set y j.toNat (IntKind.wrap .i64 (List.getD y j.toNat (0:Int)+1)) :: List.set (List.replicate (nat_lit 1) (List.replicate 4 (0:Int))) (nat_lit 0) (List.set y j.toNat (IntKind.wrap .i64 (List.getD y j.toNat (0:Int)
 - 1)))=gainL y j.toNat∧false=false
theorem vct124 (y : List Int) (j : Int) : Pt124 y j = vcFun Ct124 (annt124 y j) Go.Proofs.Tryd.f124 [⟨.arr 4 (.int .i64), y⟩, ⟨.int .i64, j⟩] [] (outt124 y j) := by kernel_rfl

noncomputable def Ct86 : Ctx := ⟨Go.Proofs.Tryd.prog, D, Gt124, (fun _ _ => none), fun _ => []⟩
def annt86 (y : List Int) : Nat → St → Option Ann := fun id S => match id with | 0 => some ⟨Nat, [1, 8], [0], fun i => [(9, .v (.int .i64) (i : Int)), (3, .v (.ref .slice) (.slice 1 (.arr 4 (.int .i64)) [] 0 (movI y i).length))], fun i => [(1, some ⟨false, false, .arr 4 (.int .i64), movI y i⟩)], fun i => i ≤ 4, fun i => 4 - i⟩ | _ => some ⟨Nat, [1, 4, 6, 8, 9], [0, 2], fun j => [(24, .v (.int .i64) (j : Int)), (3, .v (.ref .slice) (.slice 3 (.arr 4 (.int .i64)) [] 0 (movI y (S.i 4).toNat ++ movJ y (S.i 4).toNat j).length))], fun j => [(3, some ⟨false, false, .arr 4 (.int .i64), movI y (S.i 4).toNat ++ movJ y (S.i 4).toNat j⟩)], fun j => j ≤ 4, fun j => 4 - j⟩
def outt86 (y : List Int) : COut := ⟨[pulsesF y ≤ 12], .v (.ref .slice) (.slice 0 (.arr 4 (.int .i64)) [] 0 (movL y).length), [], [⟨false, false, .arr 4 (.int .i64), movL y⟩]⟩
def spt86 : Spec := fun args ins => match args, ins with
  | [⟨.arr 4 (.int .i64), y⟩], [] => some (outt86 y)
  | _, _ => none
def Gt86 := addG Gt124 86 spt86
def Pt86 (y : List Int) : Prop :=
 ∃ (x:Nat),((0=0∧List.length (movI y x)=0∧y=y∧0=(x:Int)∧y=y∧false=false∧movI y x=[])∧x≤4)∧∀ (x:Nat),x≤4→(IntKind.min .i64≤(x:Int)∧(x:Int)≤IntKind.max .i64∧∀ (y_1:List Int),List.Mem y_1 (movI y x)→List.length y_1=4∧∀ (y:Int),List.Mem
 y y_1→IntKind.min .i64≤y∧y≤IntKind.max .i64)→bif decide ((x:Int)<4) then (0≤(x:Int)∧(x:Int)<(↑ (4:Nat):Int))∧bif decide (List.getD y (x:Int).toNat (0:Int)=0) then ∃ (y_1:Nat),(0=0∧0=0∧List.length (movI y x)=List.length (movI y y_1)∧y=y∧IntKind.wrap
 .i64 ((x:Int)+1)=(y_1:Int)∧y=y∧false=false∧movI y x=movI y y_1∧false=false)∧y_1≤4∧4 - y_1<4 - x else ((0≤(x:Int)∧(x:Int)<(↑ (4:Nat):Int))∧(x:Int).toNat<4∧(0≤(x:Int)∧(x:Int)<(↑ (4:Nat):Int))∧(x:Int).toNat<4)∧∃ (x_1:Nat),((0=0∧0=0∧List.length
 (movI y x)=List.length (movI y (x:Int).toNat ++ movJ y (x:Int).toNat x_1)∧(x:Int)=(x:Int)∧0=0∧y=y∧(x:Int)=(x:Int)∧0=(x_1:Int)∧y=y∧false=false∧List.set y (x:Int).toNat (IntKind.wrap .i64 (List.getD y (x:Int).toNat (0:Int) - max (min
 (List.getD y (x:Int).toNat (0:Int)) (1:Int)) (-1:Int)))=List.set y (x:Int).toNat (IntKind.wrap .i64 (List.getD y (x:Int).toNat (0:Int) - max (min (List.getD y (x:Int).toNat (0:Int)) (1:Int)) (-1:Int)))∧false=false∧movI y x=movI y (x:Int).toNat
 ++ movJ y (x:Int).toNat x_1∧false=false)∧x_1≤4)∧∀ (x_2:Nat),x_2≤4→(IntKind.min .i64≤(x_2:Int)∧(x_2:Int)≤IntKind.max .i64∧∀ (y_1:List Int),List.Mem y_1 (movI y (x:Int).toNat ++ movJ y (x:Int).toNat x_2)→List.length y_1=4∧∀ (y:Int),List.Mem
 y y_1→IntKind.min .i64≤y∧y≤IntKind.max .i64)→bif decide ((x_2:Int)<4) then bif !decide ((x_2:Int)=(x:Int)) then (((0≤(x_2:Int)∧(x_2:Int)<4)∧smallV (List.set y (x:Int).toNat (IntKind.wrap .i64 (List.getD y (x:Int).toNat (0:Int) - max
 (min (List.getD y (x:Int).toNat (0:Int)) (1:Int)) (-1:Int)))))∧0+List.length (gainL (List.set y (x:Int).toNat (IntKind.wrap .i64 (List.getD y (x:Int).toNat (0:Int) - max (min (List.getD y (x:Int).toNat (0:Int)) (1:Int)) (-1:Int))))
 (x_2:Int).toNat)≤List.length (gainL (List.set y (x:Int).toNat (IntKind.wrap .i64 (List.getD y (x:Int).toNat (0:Int) - max (min (List.getD y (x:Int).toNat (0:Int)) (1:Int)) (-1:Int)))) (x_2:Int).toNat)∧0+List.length (movI y (x:Int).toNat
 ++ movJ y (x:Int).toNat x_2)=List.length (List.append (movI y (x:Int).toNat) (movJ y (x:Int).toNat x_2))∧(List.length (movI y (x:Int).toNat ++ movJ y (x:Int).toNat x_2)+List.length (seg (gainL (List.set y (x:Int).toNat (IntKind.wrap
 .i64 (List.getD y (x:Int).toNat (0:Int) - max (min (List.getD y (x:Int).toNat (0:Int)) (1:Int)) (-1:Int)))) (x_2:Int).toNat) (0:Nat) (List.length (gainL (List.set y (x:Int).toNat (IntKind.wrap .i64 (List.getD y (x:Int).toNat (0:Int)
 - max (min (List.getD y (x:Int).toNat (0:Int)) (1:Int)) (-1:Int)))) (x_2:Int).toNat)))) * 32≤70368744177664)∧∃ (y_1:Nat),(0=0∧0=0∧List.length (movI y (x:Int).toNat ++ movJ y (x:Int).toNat x_2)+List.length (seg (gainL (List.set y (x:Int).toNat
 (IntKind.wrap .i64 (List.getD y (x:Int).toNat (0:Int) - max (min (List.getD y (x:Int).toNat (0:Int)) (1:Int)) (-1:Int)))) (x_2:Int).toNat) (0:Nat) (List.length (gainL (List.set y (x:Int).toNat (IntKind.wrap .i64 (List.getD y (x:Int).toNat
 (0:Int) - max (min (List.getD y (x:Int).toNat (0:Int)) (1:Int)) (-1:Int)))) (x_2:Int).toNat)))=List.length (movI y (x:Int).toNat ++ movJ y (x:Int).toNat y_1)∧(x:Int)=(x:Int)∧0=0∧y=y∧(x:Int)=(x:Int)∧IntKind.wrap .i64 ((x_2:Int)+1)=(y_1:Int)∧y=y∧false=false∧List.set
 y (x:Int).toNat (IntKind.wrap .i64 (List.getD y (x:Int).toNat (0:Int) - max (min (List.getD y (x:Int).toNat (0:Int)) (1:Int)) (-1:Int)))=List.set y (x:Int).toNat (IntKind.wrap .i64 (List.getD y (x:Int).toNat (0:Int) - max (min (List.getD
 y (x:Int).toNat (0:Int)) (1:Int)) (-1:Int)))∧false=false∧List.append (List.drop (0:Nat) (List.append (movI y (x:Int).toNat) (movJ y (x:Int).toNat x_2))) (seg (gainL (List.set y (x:Int).toNat (IntKind.wrap .i64 (List.getD y (x:Int).toNat
 (0:Int) - max (min (List.getD y (x:Int).toNat (0:Int)) (1:Int)) (-1:Int)))) (x_2:Int).toNat) (0:Nat) (List.length (gainL (List.set y (x:Int).toNat (IntKind.wrap .i64 (List.getD y (x:Int).toNat (0:Int) - max (min (List.getD y (x:Int).toNat
 (0:Int)) (1:Int)) (-1:Int)))) (x_2:Int).toNat)))=movI y (x:Int).toNat ++ movJ y (x:Int).toNat y_1∧false=false)∧y_1≤4∧4 - y_1<4 - x_2 else ∃ (y_1:Nat),(0=0∧0=0∧List.length (movI y (x:Int).toNat ++ movJ y (x:Int).toNat x_2)=List.length
 (movI y (x:Int).toNat ++ movJ y (x:Int).toNat y_1)∧(x:Int)=(x:Int)∧0=0∧y=y∧(x:Int)=(x:Int)∧IntKind.wrap .i64 ((x_2:Int)+1)=(y_1:Int)∧y=y∧false=false∧List.set y (x:Int).toNat (IntKind.wrap .i64 (List.getD y (x:Int).toNat (0:Int) - max
 (min (List.getD y (x:Int).toNat (0:Int)) (1:Int)) (-1:Int)))=List.set y (x:Int).toNat (IntKind.wrap .i64 (List.getD y (x:Int).toNat (0:Int) - max (min (List.getD y (x:Int).toNat (0:Int)) (1:Int)) (-1:Int)))∧false=false∧List.append (movI
 y (x:Int).toNat) (movJ y (x:Int).toNat x_2)=movI y (x:Int).toNat ++ movJ y (x:Int).toNat y_1∧false=false)∧y_1≤4∧4 - y_1<4 - x_2 else ∃ (y_1:Nat),(0=0∧0=0∧List.length (movI y (x:Int).toNat ++ movJ y (x:Int).toNat x_2)=List.length (movI
 y y_1)∧y=y∧IntKind.wrap .i64 ((x:Int)+1)=(y_1:Int)∧y=y∧false=false∧List.append (movI y (x:Int).toNat) (movJ y (x:Int).toNat x_2)=movI y y_1∧false=false)∧y_1≤4∧4 - y_1<4 - x else 0=0∧List.length (movI y x)=List.length (movL y)∧movI y
 x=movL y∧false=false
theorem vct86 (y : List Int) : Pt86 y = vcFun Ct86 (annt86 y) Go.Proofs.Tryd.f86 [⟨.arr 4 (.int .i64), y⟩] [] (outt86 y) := by kernel_rfl

noncomputable def Ct45 : Ctx := ⟨Go.Proofs.Tryd.prog, D, Gt86, (fun _ _ => none), fun _ => []⟩
def annt45 (_z _k : List Int) (_p : Int × List Int × List (List Int)) (_w : Int × Int) (_s : List Int × List (List Int)) (_y : List Int) : Nat → St → Option Ann := fun _ _ => none
def outt45 (z k : List Int) (p : Int × List Int × List (List Int)) (w : Int × Int) (s : List Int × List (List Int)) (y : List Int) : COut := ⟨[smallV y ∧ smallV z], .v .bool (goodT k p.1 s.1 w.1 w.2 y z), [], []⟩
def spt45 : Spec := fun args ins => match args, ins with
  | [⟨.arr 4 (.int .i64), z⟩, ⟨.ref .ptr, .ptr 0 (.arr 16 (.int .u8)) [0]⟩, ⟨.ref .ptr, .ptr 1 (.cons (.int .i64) (.last (.cons (.arr 8 (.int .i64)) (.last (.arr 8 (.arr 4 (.int .i64))))))) [0]⟩, ⟨.ref .ptr, .ptr 2 (.cons (.int .i64) (.last (.int .i64))) [0]⟩, ⟨.ref .ptr, .ptr 3 (.cons (.arr 8 (.int .i64)) (.last (.arr 8 (.arr 4 (.int .i64))))) [0]⟩, ⟨.ref .ptr, .ptr 4 (.arr 4 (.int .i64)) [0]⟩], [⟨false, true, .arr 16 (.int .u8), [k]⟩, ⟨false, true, (.cons (.int .i64) (.last (.cons (.arr 8 (.int .i64)) (.last (.arr 8 (.arr 4 (.int .i64))))))), [p]⟩, ⟨false, true, (.cons (.int .i64) (.last (.int .i64))), [w]⟩, ⟨false, true, (.cons (.arr 8 (.int .i64)) (.last (.arr 8 (.arr 4 (.int .i64))))), [s]⟩, ⟨false, true, .arr 4 (.int .i64), [y]⟩] => some (outt45 z k p w s y)
  | _, _ => none
def Gt45 := addG Gt86 45 spt45
def Pt45 (z k : List Int) (p : Int × List Int × List (List Int)) (w : Int × Int) (s : List Int × List (List Int)) (y : List Int) : Prop :=
 bif decide ((parK k p.1 w.1 z).1=w.2) then (smallV y∧smallV z)∧mayV s.1 w.1 y z=goodT k p.1 s.1 w.1 w.2 y z∧k=k∧false=false∧p.1=p.1∧p.2.1=p.2.1∧p.2.2=p.2.2∧false=false∧w.1=w.1∧w.2=w.2∧false=false∧s.1=s.1∧s.2=s.2∧false=false∧y=y∧false=false
 else (false=true→false=true)∧false=goodT k p.1 s.1 w.1 w.2 y z∧k=k∧false=false∧p.1=p.1∧p.2.1=p.2.1∧p.2.2=p.2.2∧false=false∧w.1=w.1∧w.2=w.2∧false=false∧s.1=s.1∧s.2=s.2∧false=false∧y=y∧false=false
theorem vct45 (z k : List Int) (p : Int × List Int × List (List Int)) (w : Int × Int) (s : List Int × List (List Int)) (y : List Int) : Pt45 z k p w s y = vcFun Ct45 (annt45 z k p w s y) Go.Proofs.Tryd.f45 [⟨.arr 4 (.int .i64), z⟩, ⟨.ref .ptr, .ptr 0 (.arr 16 (.int .u8)) [0]⟩, ⟨.ref .ptr, .ptr 1 (.cons (.int .i64) (.last (.cons (.arr 8 (.int .i64)) (.last (.arr 8 (.arr 4 (.int .i64))))))) [0]⟩, ⟨.ref .ptr, .ptr 2 (.cons (.int .i64) (.last (.int .i64))) [0]⟩, ⟨.ref .ptr, .ptr 3 (.cons (.arr 8 (.int .i64)) (.last (.arr 8 (.arr 4 (.int .i64))))) [0]⟩, ⟨.ref .ptr, .ptr 4 (.arr 4 (.int .i64)) [0]⟩] [⟨false, true, .arr 16 (.int .u8), [k]⟩, ⟨false, true, (.cons (.int .i64) (.last (.cons (.arr 8 (.int .i64)) (.last (.arr 8 (.arr 4 (.int .i64))))))), [p]⟩, ⟨false, true, (.cons (.int .i64) (.last (.int .i64))), [w]⟩, ⟨false, true, (.cons (.arr 8 (.int .i64)) (.last (.arr 8 (.arr 4 (.int .i64))))), [s]⟩, ⟨false, true, .arr 4 (.int .i64), [y]⟩] (outt45 z k p w s y) := by kernel_rfl

noncomputable def Ct44 : Ctx := ⟨Go.Proofs.Tryd.prog, D, Gt45, (fun _ _ => none), fun _ => []⟩
def annt44 (y k : List Int) (p : Int × List Int × List (List Int)) (w : Int × Int) (s : List Int × List (List Int)) (_x : List Int) : Nat → St → Option Ann := fun _ _ => some ⟨Nat, [1, 4, 5, 13, 14], [0, 1, 2, 3, 4, 6, 8], fun i => [(15, .v (.int .i64) (i : Int)), (6, .v (.int .i64) (nearTo (goodT k p.1 s.1 w.1 w.2 y) y i).2)], fun i => [(7, some ⟨false, true, .arr 4 (.int .i64), [(nearTo (goodT k p.1 s.1 w.1 w.2 y) y i).1]⟩)], fun i => i ≤ (movL y).length, fun i => (movL y).length - i⟩
def outt44 (y k : List Int) (p : Int × List Int × List (List Int)) (w : Int × Int) (s : List Int × List (List Int)) (x : List Int) : COut := ⟨[pulsesF y ≤ 12 ∧ x = y], .v (.arr 4 (.int .i64)) (nearF (goodT k p.1 s.1 w.1 w.2 y) y), [], []⟩
def spt44 : Spec := fun args ins => match args, ins with
  | [⟨.arr 4 (.int .i64), y⟩, ⟨.ref .func, .func (.func 45) [] [.ptr 0 (.arr 16 (.int .u8)) [0], .ptr 1 (.cons (.int .i64) (.last (.cons (.arr 8 (.int .i64)) (.last (.arr 8 (.arr 4 (.int .i64))))))) [0], .ptr 2 (.cons (.int .i64) (.last (.int .i64))) [0], .ptr 3 (.cons (.arr 8 (.int .i64)) (.last (.arr 8 (.arr 4 (.int .i64))))) [0], .ptr 4 (.arr 4 (.int .i64)) [0]]⟩], [⟨false, true, .arr 16 (.int .u8), [k]⟩, ⟨false, true, (.cons (.int .i64) (.last (.cons (.arr 8 (.int .i64)) (.last (.arr 8 (.arr 4 (.int .i64))))))), [p]⟩, ⟨false, true, (.cons (.int .i64) (.last (.int .i64))), [w]⟩, ⟨false, true, (.cons (.arr 8 (.int .i64)) (.last (.arr 8 (.arr 4 (.int .i64))))), [s]⟩, ⟨false, true, .arr 4 (.int .i64), [x]⟩] => some (outt44 y k p w s x)
  | _, _ => none
def Gt44 := addG Gt45 44 spt44
def Pt44 (y k : List Int) (p : Int × List Int × List (List Int)) (w : Int × Int) (s : List Int × List (List Int)) (x : List Int) : Prop :=
 pulsesF y≤12∧∃ (x_1:Nat),((0=0∧0=0∧0=0∧0=0∧0=0∧0=0∧0=0∧(-1:Int)=(nearTo (goodT k p.1 s.1 w.1 w.2 y) y x_1).2∧0=0∧List.length (movL y)=List.length (movL y)∧(↑ (List.length (movL y)):Int)=(↑ (List.length (movL y)):Int)∧0=(x_1:Int)∧k=k∧false=false∧p.1=p.1∧p.2.1=p.2.1∧p.2.2=p.2.2∧false=false∧w.1=w.1∧w.2=w.2∧false=false∧s.1=s.1∧s.2=s.2∧false=false∧x=x∧false=false∧(0:Int)
 :: List.replicate (nat_lit 3) (0:Int)=List.replicate 4 (0:Int)∧false=false∧y=(nearTo (goodT k p.1 s.1 w.1 w.2 y) y x_1).1∧false=false∧movL y=movL y∧false=false)∧x_1≤List.length (movL y))∧∀ (x_2:Nat),x_2≤List.length (movL y)→(IntKind.min
 .i64≤(x_2:Int)∧(x_2:Int)≤IntKind.max .i64∧IntKind.min .i64≤(nearTo (goodT k p.1 s.1 w.1 w.2 y) y x_2).2∧(nearTo (goodT k p.1 s.1 w.1 w.2 y) y x_2).2≤IntKind.max .i64∧∀ (y_1:List Int),List.Mem y_1 [(nearTo (goodT k p.1 s.1 w.1 w.2 y)
 y x_2).1]→List.length y_1=4∧∀ (y:Int),List.Mem y y_1→IntKind.min .i64≤y∧y≤IntKind.max .i64)→bif decide ((x_2:Int)<(↑ (List.length (movL y)):Int)) then ((0≤(x_2:Int)∧(x_2:Int)<(↑ (List.length (movL y)):Int))∧0+(x_2:Int).toNat<List.length
 (movL y))∧((4:Nat)≤9223372036854775807∧4=List.length (List.getD (movL y) (0+(x_2:Int).toNat) (List.replicate 4 (0:Int))))∧bif decide ((indexF (List.getD (movL y) (0+(x_2:Int).toNat) (List.replicate 4 (0:Int)))).2=0) then ∀ (b:Bool),goodT
 k p.1 s.1 w.1 w.2 x (List.getD (movL y) (0+(x_2:Int).toNat) (List.replicate 4 (0:Int)))=b→∀ (b_1:Bool),decide ((nearTo (goodT k p.1 s.1 w.1 w.2 y) y x_2).2<0)=b_1→((smallV x∧smallV (List.getD (movL y) (0+(x_2:Int).toNat) (List.replicate
 4 (0:Int))))∧(b=true→b=true)∧((b && b && !b_1)=true→(b && b && !b_1)=true∧(b && b && !b_1)=true)∧(b=true→(b && b)=true∧(b_1=false→(b && b && !b_1)=true))∧(b=true→b=true))∧bif bif b then bif b_1 then true else decide ((indexF (List.getD
 (movL y) (0+(x_2:Int).toNat) (List.replicate 4 (0:Int)))).1<(nearTo (goodT k p.1 s.1 w.1 w.2 y) y x_2).2) else false then ∃ (y_1:Nat),(0=0∧0=0∧0=0∧0=0∧0=0∧0=0∧0=0∧(indexF (List.getD (movL y) (0+(x_2:Int).toNat) (List.replicate 4 (0:Int)))).1=(nearTo
 (goodT k p.1 s.1 w.1 w.2 y) y y_1).2∧0=0∧List.length (movL y)=List.length (movL y)∧(↑ (List.length (movL y)):Int)=(↑ (List.length (movL y)):Int)∧IntKind.wrap .i64 ((x_2:Int)+1)=(y_1:Int)∧k=k∧false=false∧p.1=p.1∧p.2.1=p.2.1∧p.2.2=p.2.2∧false=false∧w.1=w.1∧w.2=w.2∧false=false∧s.1=s.1∧s.2=s.2∧false=false∧x=x∧false=false∧(0:Int)
 :: List.replicate (nat_lit 3) (0:Int)=List.replicate 4 (0:Int)∧false=false∧List.getD (movL y) (0+(x_2:Int).toNat) (List.replicate 4 (0:Int))=(nearTo (goodT k p.1 s.1 w.1 w.2 y) y y_1).1∧false=false∧movL y=movL y∧false=false)∧y_1≤List.length
 (movL y)∧List.length (movL y) - y_1<List.length (movL y) - x_2 else ∃ (y_1:Nat),(0=0∧0=0∧0=0∧0=0∧0=0∧0=0∧0=0∧(nearTo (goodT k p.1 s.1 w.1 w.2 y) y x_2).2=(nearTo (goodT k p.1 s.1 w.1 w.2 y) y y_1).2∧0=0∧List.length (movL y)=List.length
 (movL y)∧(↑ (List.length (movL y)):Int)=(↑ (List.length (movL y)):Int)∧IntKind.wrap .i64 ((x_2:Int)+1)=(y_1:Int)∧k=k∧false=false∧p.1=p.1∧p.2.1=p.2.1∧p.2.2=p.2.2∧false=false∧w.1=w.1∧w.2=w.2∧false=false∧s.1=s.1∧s.2=s.2∧false=false∧x=x∧false=false∧(0:Int)
 :: List.replicate (nat_lit 3) (0:Int)=List.replicate 4 (0:Int)∧false=false∧(nearTo (goodT k p.1 s.1 w.1 w.2 y) y x_2).1=(nearTo (goodT k p.1 s.1 w.1 w.2 y) y y_1).1∧false=false∧movL y=movL y∧false=false)∧y_1≤List.length (movL y)∧List.length
 (movL y) - y_1<List.length (movL y) - x_2 else ∀ (b:Bool),false=b→∀ (b_1:Bool),decide ((nearTo (goodT k p.1 s.1 w.1 w.2 y) y x_2).2<0)=b_1→((false=true→false=true)∧(b=true→b=true)∧((b && b && !b_1)=true→(b && b && !b_1)=true∧(b && b
 && !b_1)=true)∧(b=true→(b && b)=true∧(b_1=false→(b && b && !b_1)=true))∧(b=true→b=true))∧bif bif b then bif b_1 then true else decide ((indexF (List.getD (movL y) (0+(x_2:Int).toNat) (List.replicate 4 (0:Int)))).1<(nearTo (goodT k p.1
 s.1 w.1 w.2 y) y x_2).2) else false then ∃ (y_1:Nat),(0=0∧0=0∧0=0∧0=0∧0=0∧0=0∧0=0∧(indexF (List.getD (movL y) (0+(x_2:Int).toNat) (List.replicate 4 (0:Int)))).1=(nearTo (goodT k p.1 s.1 w.1 w.2 y) y y_1).2∧0=0∧List.length (movL y)=List.length
 (movL y)∧(↑ (List.length (movL y)):Int)=(↑ (List.length (movL y)):Int)∧IntKind.wrap .i64 ((x_2:Int)+1)=(y_1:Int)∧k=k∧false=false∧p.1=p.1∧p.2.1=p.2.1∧p.2.2=p.2.2∧false=false∧w.1=w.1∧w.2=w.2∧false=false∧s.1=s.1∧s.2=s.2∧false=false∧x=x∧false=false∧(0:Int)
 :: List.replicate (nat_lit 3) (0:Int)=List.replicate 4 (0:Int)∧false=false∧List.getD (movL y) (0+(x_2:Int).toNat) (List.replicate 4 (0:Int))=(nearTo (goodT k p.1 s.1 w.1 w.2 y) y y_1).1∧false=false∧movL y=movL y∧false=false)∧y_1≤List.length
 (movL y)∧List.length (movL y) - y_1<List.length (movL y) - x_2 else ∃ (y_1:Nat),(0=0∧0=0∧0=0∧0=0∧0=0∧0=0∧0=0∧(nearTo (goodT k p.1 s.1 w.1 w.2 y) y x_2).2=(nearTo (goodT k p.1 s.1 w.1 w.2 y) y y_1).2∧0=0∧List.length (movL y)=List.length
 (movL y)∧(↑ (List.length (movL y)):Int)=(↑ (List.length (movL y)):Int)∧IntKind.wrap .i64 ((x_2:Int)+1)=(y_1:Int)∧k=k∧false=false∧p.1=p.1∧p.2.1=p.2.1∧p.2.2=p.2.2∧false=false∧w.1=w.1∧w.2=w.2∧false=false∧s.1=s.1∧s.2=s.2∧false=false∧x=x∧false=false∧(0:Int)
 :: List.replicate (nat_lit 3) (0:Int)=List.replicate 4 (0:Int)∧false=false∧(nearTo (goodT k p.1 s.1 w.1 w.2 y) y x_2).1=(nearTo (goodT k p.1 s.1 w.1 w.2 y) y y_1).1∧false=false∧movL y=movL y∧false=false)∧y_1≤List.length (movL y)∧List.length
 (movL y) - y_1<List.length (movL y) - x_2 else (nearTo (goodT k p.1 s.1 w.1 w.2 y) y x_2).1=nearF (goodT k p.1 s.1 w.1 w.2 y) y∧k=k∧false=false∧p.1=p.1∧p.2.1=p.2.1∧p.2.2=p.2.2∧false=false∧w.1=w.1∧w.2=w.2∧false=false∧s.1=s.1∧s.2=s.2∧false=false∧x=x∧false=false
theorem vct44 (y k : List Int) (p : Int × List Int × List (List Int)) (w : Int × Int) (s : List Int × List (List Int)) (x : List Int) : Pt44 y k p w s x = vcFun Ct44 (annt44 y k p w s x) Go.Proofs.Tryd.f44 [⟨.arr 4 (.int .i64), y⟩, ⟨.ref .func, .func (.func 45) [] [.ptr 0 (.arr 16 (.int .u8)) [0], .ptr 1 (.cons (.int .i64) (.last (.cons (.arr 8 (.int .i64)) (.last (.arr 8 (.arr 4 (.int .i64))))))) [0], .ptr 2 (.cons (.int .i64) (.last (.int .i64))) [0], .ptr 3 (.cons (.arr 8 (.int .i64)) (.last (.arr 8 (.arr 4 (.int .i64))))) [0], .ptr 4 (.arr 4 (.int .i64)) [0]]⟩] [⟨false, true, .arr 16 (.int .u8), [k]⟩, ⟨false, true, (.cons (.int .i64) (.last (.cons (.arr 8 (.int .i64)) (.last (.arr 8 (.arr 4 (.int .i64))))))), [p]⟩, ⟨false, true, (.cons (.int .i64) (.last (.int .i64))), [w]⟩, ⟨false, true, (.cons (.arr 8 (.int .i64)) (.last (.arr 8 (.arr 4 (.int .i64))))), [s]⟩, ⟨false, true, .arr 4 (.int .i64), [x]⟩] (outt44 y k p w s x) := by kernel_rfl

noncomputable def Ct43 : Ctx := ⟨Go.Proofs.Tryd.prog, D, Gt44, (fun _ _ => none), fun _ => []⟩
def annt43 (s : List Int × List (List Int)) : Nat → St → Option Ann := fun _ _ => some ⟨Nat, [1, 6], [0], fun i => [(7, .v (.int .i64) (i : Int))], fun _ => [], fun i => i ≤ 8 ∧ (s.2.take i).all (fun y => decide (pulsesF y ≤ 12)) = true, fun i => 8 - i⟩
def outt43 (s : List Int × List (List Int)) : COut := ⟨[], .v .bool (rightT s), [], []⟩
def spt43 : Spec := fun args ins => match args, ins with
  | [⟨(.cons (.arr 8 (.int .i64)) (.last (.arr 8 (.arr 4 (.int .i64))))), s⟩], [] => some (outt43 s)
  | _, _ => none
def Gt43 := addG Gt44 43 spt43
def Pt43 (s : List Int × List (List Int)) : Prop :=
 ∃ (x:Nat),((0=0∧s.2=s.2∧0=(x:Int)∧s.1=s.1∧s.2=s.2∧false=false)∧x≤8∧(List.all (List.take x s.2) fun (y:List Int) => decide (pulsesF y≤12))=true)∧∀ (x:Nat),x≤8∧(List.all (List.take x s.2) fun (y:List Int) => decide (pulsesF y≤12))=true→IntKind.min
 .i64≤(x:Int)∧(x:Int)≤IntKind.max .i64→bif decide ((x:Int)<8) then (0≤(x:Int)∧(x:Int)<(↑ (8:Nat):Int))∧bif !decide (pulsesF (List.getD s.2 (x:Int).toNat (List.replicate 4 (0:Int)))≤12) then false=rightT s else ∃ (y:Nat),(0=0∧s.2=s.2∧IntKind.wrap
 .i64 ((x:Int)+1)=(y:Int)∧s.1=s.1∧s.2=s.2∧false=false)∧(y≤8∧(List.all (List.take y s.2) fun (y:List Int) => decide (pulsesF y≤12))=true)∧8 - y<8 - x else rightF s.1=rightT s
theorem vct43 (s : List Int × List (List Int)) : Pt43 s = vcFun Ct43 (annt43 s) Go.Proofs.Tryd.f43 [⟨(.cons (.arr 8 (.int .i64)) (.last (.arr 8 (.arr 4 (.int .i64))))), s⟩] [] (outt43 s) := by kernel_rfl

noncomputable def Ct15 : Ctx := ⟨Go.Proofs.Tryd.prog, D, Gt43, (fun _ _ => none), fun _ => []⟩
def annt15 (k : List Int) (p : Int × List Int × List (List Int)) (a : ByteArray) : Nat → St → Option Ann := fun _ _ => some ⟨Nat, [3, 4, 6, 7, 22], [0, 1, 2], fun i => [(23, .v (.int .i64) (i : Int))], fun i => [(3, some ⟨false, true, (.cons (.arr 8 (.int .i64)) (.last (.arr 8 (.arr 4 (.int .i64))))), [tagT k p.1 (ownK k p.1 p.2) (aheadK k a) p.2 i]⟩)], fun i => i ≤ 6, fun i => 6 - i⟩
def outt15 (k : List Int) (p : Int × List Int × List (List Int)) (a : ByteArray) : COut := ⟨[ByteArray.size a ≤ 1000000], .v (.cons (.arr 8 (.int .i64)) (.last (.arr 8 (.arr 4 (.int .i64))))) (putG k p.1 p.2 a), [], []⟩
def spt15 : Spec := fun args ins => match args, ins with
  | [⟨.arr 16 (.int .u8), k⟩, ⟨(.cons (.int .i64) (.last (.cons (.arr 8 (.int .i64)) (.last (.arr 8 (.arr 4 (.int .i64))))))), p⟩, ⟨.str, a⟩], [] => some (outt15 k p a)
  | _, _ => none
def Gt15 := addG Gt43 15 spt15
def Pt15 (k : List Int) (p : Int × List Int × List (List Int)) (a : ByteArray) : Prop :=
 bif !rightT (p.2.1,p.2.2) then p.2.1=(putG k p.1 p.2 a).1∧p.2.2=(putG k p.1 p.2 a).2 else ByteArray.size a≤1000000∧∃ (x:Nat),((0=0∧0=0∧0=0∧0=0∧wishTo k p.1 (ownK k p.1 (p.2.1,p.2.2)) (aheadK k a) (3:Nat)=wishTo k p.1 (ownK k p.1 (p.2.1,p.2.2))
 (aheadK k a) (3:Nat)∧0=(x:Int)∧k=k∧false=false∧p.1=p.1∧p.2.1=p.2.1∧p.2.2=p.2.2∧false=false∧List.replicate 8 (0:Int)=List.replicate 8 (0:Int)∧List.replicate 8 (List.replicate 4 (0:Int))=List.replicate 8 (List.replicate 4 (0:Int))∧false=false∧p.2.1=(tagT
 k p.1 (ownK k p.1 p.2) (aheadK k a) p.2 x).1∧p.2.2=(tagT k p.1 (ownK k p.1 p.2) (aheadK k a) p.2 x).2∧false=false)∧x≤6)∧∀ (x:Nat),x≤6→(IntKind.min .i64≤(x:Int)∧(x:Int)≤IntKind.max .i64∧∀ (y:List Int × List (List Int)),List.Mem y [tagT
 k p.1 (ownK k p.1 p.2) (aheadK k a) p.2 x]→List.length y.1=8∧(∀ (y_1:Int),List.Mem y_1 y.1→IntKind.min .i64≤y_1∧y_1≤IntKind.max .i64)∧List.length y.2=8∧∀ (y_1:List Int),List.Mem y_1 y.2→List.length y_1=4∧∀ (y:Int),List.Mem y y_1→IntKind.min
 .i64≤y∧y≤IntKind.max .i64)→bif decide ((x:Int)<6) then (0≤(x:Int)∧(x:Int)<(↑ (6:Nat):Int))∧((0≤(List.getD (wishTo k p.1 (ownK k p.1 (p.2.1,p.2.2)) (aheadK k a) (3:Nat)) (x:Int).toNat ((0:Int),(0:Int))).1∧(List.getD (wishTo k p.1 (ownK
 k p.1 (p.2.1,p.2.2)) (aheadK k a) (3:Nat)) (x:Int).toNat ((0:Int),(0:Int))).1<(↑ (8:Nat):Int))∧(List.getD (wishTo k p.1 (ownK k p.1 (p.2.1,p.2.2)) (aheadK k a) (3:Nat)) (x:Int).toNat ((0:Int),(0:Int))).1.toNat<8)∧∀ (b:Bool),(!Prod.snd
 (parK k p.1 (List.getD (wishTo k p.1 (ownK k p.1 (p.2.1,p.2.2)) (aheadK k a) (3:Nat)) (x:Int).toNat ((0:Int),(0:Int))).1 (List.getD (tagT k p.1 (ownK k p.1 p.2) (aheadK k a) p.2 x).2 (List.getD (wishTo k p.1 (ownK k p.1 (p.2.1,p.2.2))
 (aheadK k a) (3:Nat)) (x:Int).toNat ((0:Int),(0:Int))).1.toNat (List.replicate 4 (0:Int)))))=b→(((!b)=true→(!b)=true)∧((!b)=true→(!b)=true∧(!b)=true)∧((!b)=true→(!b)=true∧(!b)=true)∧(b=false→(!b)=true))∧bif bif b then true else Ty.eqb
 (Ty.cons (Ty.int .i64) (Ty.last (Ty.int .i64))) (List.getD (wishTo k p.1 (ownK k p.1 (p.2.1,p.2.2)) (aheadK k a) (3:Nat)) (x:Int).toNat ((0:Int),(0:Int))) ((List.getD (wishTo k p.1 (ownK k p.1 (p.2.1,p.2.2)) (aheadK k a) (3:Nat)) (x:Int).toNat
 ((0:Int),(0:Int))).1,(parK k p.1 (List.getD (wishTo k p.1 (ownK k p.1 (p.2.1,p.2.2)) (aheadK k a) (3:Nat)) (x:Int).toNat ((0:Int),(0:Int))).1 (List.getD (tagT k p.1 (ownK k p.1 p.2) (aheadK k a) p.2 x).2 (List.getD (wishTo k p.1 (ownK
 k p.1 (p.2.1,p.2.2)) (aheadK k a) (3:Nat)) (x:Int).toNat ((0:Int),(0:Int))).1.toNat (List.replicate 4 (0:Int)))).1) then ∃ (y:Nat),(0=0∧0=0∧0=0∧0=0∧wishTo k p.1 (ownK k p.1 (p.2.1,p.2.2)) (aheadK k a) (3:Nat)=wishTo k p.1 (ownK k p.1
 (p.2.1,p.2.2)) (aheadK k a) (3:Nat)∧IntKind.wrap .i64 ((x:Int)+1)=(y:Int)∧k=k∧false=false∧p.1=p.1∧p.2.1=p.2.1∧p.2.2=p.2.2∧false=false∧List.replicate 8 (0:Int)=List.replicate 8 (0:Int)∧List.replicate 8 (List.replicate 4 (0:Int))=List.replicate
 8 (List.replicate 4 (0:Int))∧false=false∧(tagT k p.1 (ownK k p.1 p.2) (aheadK k a) p.2 x).1=(tagT k p.1 (ownK k p.1 p.2) (aheadK k a) p.2 y).1∧(tagT k p.1 (ownK k p.1 p.2) (aheadK k a) p.2 x).2=(tagT k p.1 (ownK k p.1 p.2) (aheadK k
 a) p.2 y).2∧false=false)∧y≤6∧6 - y<6 - x else ((0≤(List.getD (wishTo k p.1 (ownK k p.1 (p.2.1,p.2.2)) (aheadK k a) (3:Nat)) (x:Int).toNat ((0:Int),(0:Int))).1∧(List.getD (wishTo k p.1 (ownK k p.1 (p.2.1,p.2.2)) (aheadK k a) (3:Nat))
 (x:Int).toNat ((0:Int),(0:Int))).1<(↑ (8:Nat):Int))∧(List.getD (wishTo k p.1 (ownK k p.1 (p.2.1,p.2.2)) (aheadK k a) (3:Nat)) (x:Int).toNat ((0:Int),(0:Int))).1.toNat<8)∧((pulsesF (List.getD (tagT k p.1 (ownK k p.1 p.2) (aheadK k a)
 p.2 x).2 (List.getD (wishTo k p.1 (ownK k p.1 (p.2.1,p.2.2)) (aheadK k a) (3:Nat)) (x:Int).toNat ((0:Int),(0:Int))).1.toNat (List.replicate 4 (0:Int)))≤12∧List.getD (tagT k p.1 (ownK k p.1 p.2) (aheadK k a) p.2 x).2 (List.getD (wishTo
 k p.1 (ownK k p.1 (p.2.1,p.2.2)) (aheadK k a) (3:Nat)) (x:Int).toNat ((0:Int),(0:Int))).1.toNat (List.replicate 4 (0:Int))=List.getD (tagT k p.1 (ownK k p.1 p.2) (aheadK k a) p.2 x).2 (List.getD (wishTo k p.1 (ownK k p.1 (p.2.1,p.2.2))
 (aheadK k a) (3:Nat)) (x:Int).toNat ((0:Int),(0:Int))).1.toNat (List.replicate 4 (0:Int)))∧(0≤(List.getD (wishTo k p.1 (ownK k p.1 (p.2.1,p.2.2)) (aheadK k a) (3:Nat)) (x:Int).toNat ((0:Int),(0:Int))).1∧(List.getD (wishTo k p.1 (ownK
 k p.1 (p.2.1,p.2.2)) (aheadK k a) (3:Nat)) (x:Int).toNat ((0:Int),(0:Int))).1<(↑ (8:Nat):Int))∧(List.getD (wishTo k p.1 (ownK k p.1 (p.2.1,p.2.2)) (aheadK k a) (3:Nat)) (x:Int).toNat ((0:Int),(0:Int))).1.toNat<8)∧∃ (y:Nat),(0=0∧0=0∧0=0∧0=0∧wishTo
 k p.1 (ownK k p.1 (p.2.1,p.2.2)) (aheadK k a) (3:Nat)=wishTo k p.1 (ownK k p.1 (p.2.1,p.2.2)) (aheadK k a) (3:Nat)∧IntKind.wrap .i64 ((x:Int)+1)=(y:Int)∧k=k∧false=false∧p.1=p.1∧p.2.1=p.2.1∧p.2.2=p.2.2∧false=false∧List.replicate 8 (0:Int)=List.replicate
 8 (0:Int)∧List.replicate 8 (List.replicate 4 (0:Int))=List.replicate 8 (List.replicate 4 (0:Int))∧false=false∧(tagT k p.1 (ownK k p.1 p.2) (aheadK k a) p.2 x).1=(tagT k p.1 (ownK k p.1 p.2) (aheadK k a) p.2 y).1∧List.set (tagT k p.1
 (ownK k p.1 p.2) (aheadK k a) p.2 x).2 (List.getD (wishTo k p.1 (ownK k p.1 (p.2.1,p.2.2)) (aheadK k a) (3:Nat)) (x:Int).toNat ((0:Int),(0:Int))).1.toNat (nearF (goodT k p.1 (tagT k p.1 (ownK k p.1 p.2) (aheadK k a) p.2 x).1 (List.getD
 (wishTo k p.1 (ownK k p.1 (p.2.1,p.2.2)) (aheadK k a) (3:Nat)) (x:Int).toNat ((0:Int),(0:Int))).1 (List.getD (wishTo k p.1 (ownK k p.1 (p.2.1,p.2.2)) (aheadK k a) (3:Nat)) (x:Int).toNat ((0:Int),(0:Int))).2 (List.getD (tagT k p.1 (ownK
 k p.1 p.2) (aheadK k a) p.2 x).2 (List.getD (wishTo k p.1 (ownK k p.1 (p.2.1,p.2.2)) (aheadK k a) (3:Nat)) (x:Int).toNat ((0:Int),(0:Int))).1.toNat (List.replicate 4 (0:Int)))) (List.getD (tagT k p.1 (ownK k p.1 p.2) (aheadK k a) p.2
 x).2 (List.getD (wishTo k p.1 (ownK k p.1 (p.2.1,p.2.2)) (aheadK k a) (3:Nat)) (x:Int).toNat ((0:Int),(0:Int))).1.toNat (List.replicate 4 (0:Int))))=(tagT k p.1 (ownK k p.1 p.2) (aheadK k a) p.2 y).2∧false=false)∧y≤6∧6 - y<6 - x else
 (tagT k p.1 (ownK k p.1 p.2) (aheadK k a) p.2 x).1=(putG k p.1 p.2 a).1∧(tagT k p.1 (ownK k p.1 p.2) (aheadK k a) p.2 x).2=(putG k p.1 p.2 a).2
theorem vct15 (k : List Int) (p : Int × List Int × List (List Int)) (a : ByteArray) : Pt15 k p a = vcFun Ct15 (annt15 k p a) Go.Proofs.Tryd.f15 [⟨.arr 16 (.int .u8), k⟩, ⟨(.cons (.int .i64) (.last (.cons (.arr 8 (.int .i64)) (.last (.arr 8 (.arr 4 (.int .i64))))))), p⟩, ⟨.str, a⟩] [] (outt15 k p a) := by kernel_rfl

noncomputable def Ct14 : Ctx := ⟨Go.Proofs.Tryd.prog, D, Gt15, (fun _ _ => none), fun _ => []⟩
def annt14 (k : List Int) (p : Int × List Int × List (List Int)) (a : ByteArray) : Nat → St → Option Ann := fun _ _ => some ⟨Nat, [3, 4, 6, 7, 15], [0, 1, 2], fun i => [(16, .v (.int .i64) (i : Int))], fun i => [(3, some ⟨false, true, .arr 2 (.arr 2 (.int .i64)), [askTo k p.1 p.2 (ownK k p.1 p.2) (aheadK k a) i]⟩)], fun i => i ≤ 6, fun i => 6 - i⟩
def outt14 (k : List Int) (p : Int × List Int × List (List Int)) (a : ByteArray) : COut := ⟨[ByteArray.size a ≤ 1000000], .v (.cons (.int .i64) (.cons (.int .i64) (.cons (.int .i64) (.last (.int .i64))))) (askT k p.1 p.2 (ownK k p.1 p.2) (aheadK k a)), [], []⟩
def spt14 : Spec := fun args ins => match args, ins with
  | [⟨.arr 16 (.int .u8), k⟩, ⟨(.cons (.int .i64) (.last (.cons (.arr 8 (.int .i64)) (.last (.arr 8 (.arr 4 (.int .i64))))))), p⟩, ⟨.str, a⟩], [] => some (outt14 k p a)
  | _, _ => none
def Gt14 := addG Gt15 14 spt14
def Pt14 (k : List Int) (p : Int × List Int × List (List Int)) (a : ByteArray) : Prop :=
 ByteArray.size a≤1000000∧∃ (x:Nat),((0=0∧0=0∧0=0∧0=0∧wishTo k p.1 (ownK k p.1 (p.2.1,p.2.2)) (aheadK k a) (3:Nat)=wishTo k p.1 (ownK k p.1 (p.2.1,p.2.2)) (aheadK k a) (3:Nat)∧0=(x:Int)∧k=k∧false=false∧p.1=p.1∧p.2.1=p.2.1∧p.2.2=p.2.2∧false=false∧(0:Int)=0∧(0:Int)=0∧(0:Int)=0∧(0:Int)=0∧false=false∧List.replicate
 2 (0:Int) :: List.replicate (nat_lit 1) (List.replicate 2 (0:Int))=askTo k p.1 p.2 (ownK k p.1 p.2) (aheadK k a) x∧false=false)∧x≤6)∧∀ (x:Nat),x≤6→(IntKind.min .i64≤(x:Int)∧(x:Int)≤IntKind.max .i64∧∀ (y:List (List Int)),List.Mem y [askTo
 k p.1 p.2 (ownK k p.1 p.2) (aheadK k a) x]→List.length y=2∧∀ (y_1:List Int),List.Mem y_1 y→List.length y_1=2∧∀ (y:Int),List.Mem y y_1→IntKind.min .i64≤y∧y≤IntKind.max .i64)→bif decide ((x:Int)<6) then (0≤(x:Int)∧(x:Int)<(↑ (6:Nat):Int))∧((0≤(List.getD
 (wishTo k p.1 (ownK k p.1 (p.2.1,p.2.2)) (aheadK k a) (3:Nat)) (x:Int).toNat ((0:Int),(0:Int))).1∧(List.getD (wishTo k p.1 (ownK k p.1 (p.2.1,p.2.2)) (aheadK k a) (3:Nat)) (x:Int).toNat ((0:Int),(0:Int))).1<(↑ (8:Nat):Int))∧(List.getD
 (wishTo k p.1 (ownK k p.1 (p.2.1,p.2.2)) (aheadK k a) (3:Nat)) (x:Int).toNat ((0:Int),(0:Int))).1.toNat<8)∧bif (parK k p.1 (List.getD (wishTo k p.1 (ownK k p.1 (p.2.1,p.2.2)) (aheadK k a) (3:Nat)) (x:Int).toNat ((0:Int),(0:Int))).1
 (List.getD p.2.2 (List.getD (wishTo k p.1 (ownK k p.1 (p.2.1,p.2.2)) (aheadK k a) (3:Nat)) (x:Int).toNat ((0:Int),(0:Int))).1.toNat (List.replicate 4 (0:Int)))).2 then ((3:Int)≠0∧(0≤IntKind.wrap .i64 (Int.tdiv (x:Int) (3:Int))∧IntKind.wrap
 .i64 (Int.tdiv (x:Int) (3:Int))<(↑ (2:Nat):Int))∧((0:Int)≤0∧0<(↑ (2:Nat):Int))∧(IntKind.wrap .i64 (Int.tdiv (x:Int) (3:Int))).toNat<2∧(0:Nat)<2∧(0≤IntKind.wrap .i64 (Int.tdiv (x:Int) (3:Int))∧IntKind.wrap .i64 (Int.tdiv (x:Int) (3:Int))<(↑
 (2:Nat):Int))∧((0:Int)≤0∧0<(↑ (2:Nat):Int))∧(IntKind.wrap .i64 (Int.tdiv (x:Int) (3:Int))).toNat<2∧(0:Nat)<2)∧∀ (b:Bool),(parK k p.1 (List.getD (wishTo k p.1 (ownK k p.1 (p.2.1,p.2.2)) (aheadK k a) (3:Nat)) (x:Int).toNat ((0:Int),(0:Int))).1
 (List.getD p.2.2 (List.getD (wishTo k p.1 (ownK k p.1 (p.2.1,p.2.2)) (aheadK k a) (3:Nat)) (x:Int).toNat ((0:Int),(0:Int))).1.toNat (List.replicate 4 (0:Int)))).2=b→((b=true→b=true)∧(b=true→b=true∧b=true)∧(b=true→b=true))∧bif bif b
 then !decide ((parK k p.1 (List.getD (wishTo k p.1 (ownK k p.1 (p.2.1,p.2.2)) (aheadK k a) (3:Nat)) (x:Int).toNat ((0:Int),(0:Int))).1 (List.getD p.2.2 (List.getD (wishTo k p.1 (ownK k p.1 (p.2.1,p.2.2)) (aheadK k a) (3:Nat)) (x:Int).toNat
 ((0:Int),(0:Int))).1.toNat (List.replicate 4 (0:Int)))).1=(List.getD (wishTo k p.1 (ownK k p.1 (p.2.1,p.2.2)) (aheadK k a) (3:Nat)) (x:Int).toNat ((0:Int),(0:Int))).2) else false then ((3:Int)≠0∧(0≤IntKind.wrap .i64 (Int.tdiv (x:Int)
 (3:Int))∧IntKind.wrap .i64 (Int.tdiv (x:Int) (3:Int))<(↑ (2:Nat):Int))∧((0:Int)≤1∧1<(↑ (2:Nat):Int))∧(IntKind.wrap .i64 (Int.tdiv (x:Int) (3:Int))).toNat<2∧(1:Nat)<2∧(0≤IntKind.wrap .i64 (Int.tdiv (x:Int) (3:Int))∧IntKind.wrap .i64
 (Int.tdiv (x:Int) (3:Int))<(↑ (2:Nat):Int))∧((0:Int)≤1∧1<(↑ (2:Nat):Int))∧(IntKind.wrap .i64 (Int.tdiv (x:Int) (3:Int))).toNat<2∧(1:Nat)<2)∧∃ (y:Nat),(0=0∧0=0∧0=0∧0=0∧wishTo k p.1 (ownK k p.1 (p.2.1,p.2.2)) (aheadK k a) (3:Nat)=wishTo
 k p.1 (ownK k p.1 (p.2.1,p.2.2)) (aheadK k a) (3:Nat)∧IntKind.wrap .i64 ((x:Int)+1)=(y:Int)∧k=k∧false=false∧p.1=p.1∧p.2.1=p.2.1∧p.2.2=p.2.2∧false=false∧(0:Int)=0∧(0:Int)=0∧(0:Int)=0∧(0:Int)=0∧false=false∧List.set (List.set (askTo k
 p.1 p.2 (ownK k p.1 p.2) (aheadK k a) x) (IntKind.wrap .i64 (Int.tdiv (x:Int) (3:Int))).toNat (List.set (List.getD (askTo k p.1 p.2 (ownK k p.1 p.2) (aheadK k a) x) (IntKind.wrap .i64 (Int.tdiv (x:Int) (3:Int))).toNat (List.replicate
 2 (0:Int))) (0:Nat) (IntKind.wrap .i64 (List.getD (List.getD (askTo k p.1 p.2 (ownK k p.1 p.2) (aheadK k a) x) (IntKind.wrap .i64 (Int.tdiv (x:Int) (3:Int))).toNat (List.replicate 2 (0:Int))) (0:Nat) (0:Int)+1)))) (IntKind.wrap .i64
 (Int.tdiv (x:Int) (3:Int))).toNat (List.set (List.getD (List.set (askTo k p.1 p.2 (ownK k p.1 p.2) (aheadK k a) x) (IntKind.wrap .i64 (Int.tdiv (x:Int) (3:Int))).toNat (List.set (List.getD (askTo k p.1 p.2 (ownK k p.1 p.2) (aheadK k
 a) x) (IntKind.wrap .i64 (Int.tdiv (x:Int) (3:Int))).toNat (List.replicate 2 (0:Int))) (0:Nat) (IntKind.wrap .i64 (List.getD (List.getD (askTo k p.1 p.2 (ownK k p.1 p.2) (aheadK k a) x) (IntKind.wrap .i64 (Int.tdiv (x:Int) (3:Int))).toNat
 (List.replicate 2 (0:Int))) (0:Nat) (0:Int)+1)))) (IntKind.wrap .i64 (Int.tdiv (x:Int) (3:Int))).toNat (List.replicate 2 (0:Int))) (1:Nat) (IntKind.wrap .i64 (List.getD (List.getD (List.set (askTo k p.1 p.2 (ownK k p.1 p.2) (aheadK
 k a) x) (IntKind.wrap .i64 (Int.tdiv (x:Int) (3:Int))).toNat (List.set (List.getD (askTo k p.1 p.2 (ownK k p.1 p.2) (aheadK k a) x) (IntKind.wrap .i64 (Int.tdiv (x:Int) (3:Int))).toNat (List.replicate 2 (0:Int))) (0:Nat) (IntKind.wrap
 .i64 (List.getD (List.getD (askTo k p.1 p.2 (ownK k p.1 p.2) (aheadK k a) x) (IntKind.wrap .i64 (Int.tdiv (x:Int) (3:Int))).toNat (List.replicate 2 (0:Int))) (0:Nat) (0:Int)+1)))) (IntKind.wrap .i64 (Int.tdiv (x:Int) (3:Int))).toNat
 (List.replicate 2 (0:Int))) (1:Nat) (0:Int)+1)))=askTo k p.1 p.2 (ownK k p.1 p.2) (aheadK k a) y∧false=false)∧y≤6∧6 - y<6 - x else ∃ (y:Nat),(0=0∧0=0∧0=0∧0=0∧wishTo k p.1 (ownK k p.1 (p.2.1,p.2.2)) (aheadK k a) (3:Nat)=wishTo k p.1
 (ownK k p.1 (p.2.1,p.2.2)) (aheadK k a) (3:Nat)∧IntKind.wrap .i64 ((x:Int)+1)=(y:Int)∧k=k∧false=false∧p.1=p.1∧p.2.1=p.2.1∧p.2.2=p.2.2∧false=false∧(0:Int)=0∧(0:Int)=0∧(0:Int)=0∧(0:Int)=0∧false=false∧List.set (askTo k p.1 p.2 (ownK k
 p.1 p.2) (aheadK k a) x) (IntKind.wrap .i64 (Int.tdiv (x:Int) (3:Int))).toNat (List.set (List.getD (askTo k p.1 p.2 (ownK k p.1 p.2) (aheadK k a) x) (IntKind.wrap .i64 (Int.tdiv (x:Int) (3:Int))).toNat (List.replicate 2 (0:Int))) (0:Nat)
 (IntKind.wrap .i64 (List.getD (List.getD (askTo k p.1 p.2 (ownK k p.1 p.2) (aheadK k a) x) (IntKind.wrap .i64 (Int.tdiv (x:Int) (3:Int))).toNat (List.replicate 2 (0:Int))) (0:Nat) (0:Int)+1)))=askTo k p.1 p.2 (ownK k p.1 p.2) (aheadK
 k a) y∧false=false)∧y≤6∧6 - y<6 - x else ∀ (b:Bool),(parK k p.1 (List.getD (wishTo k p.1 (ownK k p.1 (p.2.1,p.2.2)) (aheadK k a) (3:Nat)) (x:Int).toNat ((0:Int),(0:Int))).1 (List.getD p.2.2 (List.getD (wishTo k p.1 (ownK k p.1 (p.2.1,p.2.2))
 (aheadK k a) (3:Nat)) (x:Int).toNat ((0:Int),(0:Int))).1.toNat (List.replicate 4 (0:Int)))).2=b→((b=true→b=true)∧(b=true→b=true∧b=true)∧(b=true→b=true))∧bif bif b then !decide ((parK k p.1 (List.getD (wishTo k p.1 (ownK k p.1 (p.2.1,p.2.2))
 (aheadK k a) (3:Nat)) (x:Int).toNat ((0:Int),(0:Int))).1 (List.getD p.2.2 (List.getD (wishTo k p.1 (ownK k p.1 (p.2.1,p.2.2)) (aheadK k a) (3:Nat)) (x:Int).toNat ((0:Int),(0:Int))).1.toNat (List.replicate 4 (0:Int)))).1=(List.getD (wishTo
 k p.1 (ownK k p.1 (p.2.1,p.2.2)) (aheadK k a) (3:Nat)) (x:Int).toNat ((0:Int),(0:Int))).2) else false then ((3:Int)≠0∧(0≤IntKind.wrap .i64 (Int.tdiv (x:Int) (3:Int))∧IntKind.wrap .i64 (Int.tdiv (x:Int) (3:Int))<(↑ (2:Nat):Int))∧((0:Int)≤1∧1<(↑
 (2:Nat):Int))∧(IntKind.wrap .i64 (Int.tdiv (x:Int) (3:Int))).toNat<2∧(1:Nat)<2∧(0≤IntKind.wrap .i64 (Int.tdiv (x:Int) (3:Int))∧IntKind.wrap .i64 (Int.tdiv (x:Int) (3:Int))<(↑ (2:Nat):Int))∧((0:Int)≤1∧1<(↑ (2:Nat):Int))∧(IntKind.wrap
 .i64 (Int.tdiv (x:Int) (3:Int))).toNat<2∧(1:Nat)<2)∧∃ (y:Nat),(0=0∧0=0∧0=0∧0=0∧wishTo k p.1 (ownK k p.1 (p.2.1,p.2.2)) (aheadK k a) (3:Nat)=wishTo k p.1 (ownK k p.1 (p.2.1,p.2.2)) (aheadK k a) (3:Nat)∧IntKind.wrap .i64 ((x:Int)+1)=(y:Int)∧k=k∧false=false∧p.1=p.1∧p.2.1=p.2.1∧p.2.2=p.2.2∧false=false∧(0:Int)=0∧(0:Int)=0∧(0:Int)=0∧(0:Int)=0∧false=false∧List.set
 (askTo k p.1 p.2 (ownK k p.1 p.2) (aheadK k a) x) (IntKind.wrap .i64 (Int.tdiv (x:Int) (3:Int))).toNat (List.set (List.getD (askTo k p.1 p.2 (ownK k p.1 p.2) (aheadK k a) x) (IntKind.wrap .i64 (Int.tdiv (x:Int) (3:Int))).toNat (List.replicate
 2 (0:Int))) (1:Nat) (IntKind.wrap .i64 (List.getD (List.getD (askTo k p.1 p.2 (ownK k p.1 p.2) (aheadK k a) x) (IntKind.wrap .i64 (Int.tdiv (x:Int) (3:Int))).toNat (List.replicate 2 (0:Int))) (1:Nat) (0:Int)+1)))=askTo k p.1 p.2 (ownK
 k p.1 p.2) (aheadK k a) y∧false=false)∧y≤6∧6 - y<6 - x else ∃ (y:Nat),(0=0∧0=0∧0=0∧0=0∧wishTo k p.1 (ownK k p.1 (p.2.1,p.2.2)) (aheadK k a) (3:Nat)=wishTo k p.1 (ownK k p.1 (p.2.1,p.2.2)) (aheadK k a) (3:Nat)∧IntKind.wrap .i64 ((x:Int)+1)=(y:Int)∧k=k∧false=false∧p.1=p.1∧p.2.1=p.2.1∧p.2.2=p.2.2∧false=false∧(0:Int)=0∧(0:Int)=0∧(0:Int)=0∧(0:Int)=0∧false=false∧askTo
 k p.1 p.2 (ownK k p.1 p.2) (aheadK k a) x=askTo k p.1 p.2 (ownK k p.1 p.2) (aheadK k a) y∧false=false)∧y≤6∧6 - y<6 - x else (((0:Int)≤0∧0<(↑ (2:Nat):Int))∧((0:Int)≤0∧0<(↑ (2:Nat):Int))∧(0:Nat)<2∧(0:Nat)<2∧((0:Int)≤1∧1<(↑ (2:Nat):Int))∧((0:Int)≤0∧0<(↑
 (2:Nat):Int))∧(1:Nat)<2∧(0:Nat)<2∧((0:Int)≤0∧0<(↑ (2:Nat):Int))∧((0:Int)≤1∧1<(↑ (2:Nat):Int))∧(0:Nat)<2∧(1:Nat)<2∧((0:Int)≤1∧1<(↑ (2:Nat):Int))∧((0:Int)≤1∧1<(↑ (2:Nat):Int))∧(1:Nat)<2∧(1:Nat)<2)∧List.getD (List.getD (askTo k p.1 p.2
 (ownK k p.1 p.2) (aheadK k a) x) (0:Nat) (List.replicate 2 (0:Int))) (0:Nat) (0:Int)=(askT k p.1 p.2 (ownK k p.1 p.2) (aheadK k a)).1∧List.getD (List.getD (askTo k p.1 p.2 (ownK k p.1 p.2) (aheadK k a) x) (1:Nat) (List.replicate 2 (0:Int)))
 (0:Nat) (0:Int)=(askT k p.1 p.2 (ownK k p.1 p.2) (aheadK k a)).2.1∧List.getD (List.getD (askTo k p.1 p.2 (ownK k p.1 p.2) (aheadK k a) x) (0:Nat) (List.replicate 2 (0:Int))) (1:Nat) (0:Int)=(askT k p.1 p.2 (ownK k p.1 p.2) (aheadK k
 a)).2.2.1∧List.getD (List.getD (askTo k p.1 p.2 (ownK k p.1 p.2) (aheadK k a) x) (1:Nat) (List.replicate 2 (0:Int))) (1:Nat) (0:Int)=(askT k p.1 p.2 (ownK k p.1 p.2) (aheadK k a)).2.2.2
theorem vct14 (k : List Int) (p : Int × List Int × List (List Int)) (a : ByteArray) : Pt14 k p a = vcFun Ct14 (annt14 k p a) Go.Proofs.Tryd.f14 [⟨.arr 16 (.int .u8), k⟩, ⟨(.cons (.int .i64) (.last (.cons (.arr 8 (.int .i64)) (.last (.arr 8 (.arr 4 (.int .i64))))))), p⟩, ⟨.str, a⟩] [] (outt14 k p a) := by kernel_rfl

end
end Go.SL.A

/- Tags: the code as plain conditions holds, part b. -/
namespace Go.SL.A
open Go Go.SL Go.SL.S
set_option maxRecDepth 100000

theorem hwt124 {y : List Int} {j : Int} (hw : Go.SL.allP (List.flatMap (fun a : AV => a.t.wf a.x) [⟨.arr 4 (.int .i64), y⟩, ⟨.int .i64, j⟩] ++ List.flatMap Blk.wf [])) : y.length = 4 := by
  simp only [List.flatMap_cons, List.flatMap_nil, Ty.wf, List.append_nil, List.cons_append, List.nil_append, Go.SL.allP] at hw
  exact hw.1
theorem seg_all9 {α : Type} (l : List α) : seg l 0 l.length = l := by simp [seg]
theorem puret124 (y : List Int) (j : Int) (hp : (0 ≤ j ∧ j < 4) ∧ smallV y) (_hl : y.length = 4) : Pt124 y j := by
  obtain ⟨hj, hs⟩ := hp
  unfold Pt124
  have hv := hs j.toNat (by omega)
  have hJ : j.toNat < 4 := by omega
  generalize hx : y.getD j.toNat 0 = x at *
  have w1 : IntKind.i64.wrap (x + 1) = x + 1 := w64 (by omega) (by omega)
  have w2 : IntKind.i64.wrap (x - 1) = x - 1 := w64 (by omega) (by omega)
  rw [w1, w2]
  refine ⟨⟨⟨by omega, by omega⟩, hJ, ⟨by omega, by omega⟩, hJ⟩, ⟨⟨by omega, by omega⟩, hJ, ⟨by omega, by omega⟩, hJ⟩, ⟨⟨by omega, by omega⟩, hJ⟩, ?_⟩
  unfold gainL
  rw [hx]
  by_cases h1 : 0 < x
  · rw [decide_eq_true h1, cond_true, if_pos h1]
    exact ⟨rfl, rfl, rfl, rfl⟩
  · rw [decide_eq_false h1, cond_false, if_neg h1]
    refine ⟨⟨⟨by omega, by omega⟩, hJ⟩, ?_⟩
    by_cases h2 : x < 0
    · rw [decide_eq_true h2, cond_true, if_pos h2]
      exact ⟨rfl, rfl, rfl, rfl⟩
    · rw [decide_eq_false h2, cond_false, if_neg h2]
      exact ⟨rfl, rfl, rfl, rfl⟩
theorem gain_len (x : List Int) (j : Nat) : (gainL x j).length ≤ 2 := by
  unfold gainL; split
  · simp
  · split <;> simp
theorem movJ_len (y : List Int) (i : Nat) : ∀ j, (movJ y i j).length ≤ 2 * j
  | 0 => by rw [movJ]; simp
  | j + 1 => by
    have ih := movJ_len y i j
    have := gain_len (lessI y i) j
    rw [movJ, List.length_append]
    split
    · simp; omega
    · omega
theorem movI_len (y : List Int) : ∀ i, (movI y i).length ≤ 8 * i
  | 0 => by rw [movI]; simp
  | i + 1 => by
    have ih := movI_len y i
    have := movJ_len y i 4
    rw [movI, List.length_append]
    split
    · simp; omega
    · omega
theorem small_pulses {y : List Int} (hl : y.length = 4) (hq : pulsesF y ≤ 12) : smallV y := fun i hi => by
  have := entry_fit hl hq hi
  omega
theorem less_small {y : List Int} (hl : y.length = 4) (hq : pulsesF y ≤ 12) {i : Nat} (hi : i < 4) : smallV (lessI y i) := fun q hq4 => by
  have h1 := entry_fit hl hq hq4
  unfold lessI
  rw [set_getD9 (by omega)]
  split
  · rename_i e
    subst e
    unfold sgnI; omega
  · omega
where
  set_getD9 {L : List Int} {p : Nat} {v : Int} (h : p < L.length) {q : Nat} : (List.set L p v).getD q 0 = if q = p then v else L.getD q 0 := by
    rw [List.getD_eq_getElem?_getD, List.getElem?_set]
    by_cases e : p = q
    · subst e; rw [if_pos rfl, if_pos h, if_pos rfl]; rfl
    · rw [if_neg e, if_neg (fun h => e h.symm), ← List.getD_eq_getElem?_getD]
theorem puret86 (y : List Int) (hq : pulsesF y ≤ 12) (hl : y.length = 4) : Pt86 y := by
  unfold Pt86
  simp only [eq_self, true_and, and_true, Int.toNat_natCast]
  refine ⟨0, ⟨⟨rfl, rfl, rfl⟩, by omega⟩, fun i hi hw => ?_⟩
  clear hw
  by_cases h : (i : Int) < 4
  · have he := entry_fit hl hq (i := i) (by omega)
    have hst : movI y (i + 1) = movI y i ++ if y.getD i 0 = 0 then [] else movJ y i 4 := rfl
    rw [decide_eq_true h, cond_true]
    refine ⟨⟨by omega, by omega⟩, ?_⟩
    by_cases h0 : y.getD i 0 = 0
    · rw [decide_eq_true h0, cond_true]
      rw [if_pos h0, List.append_nil] at hst
      exact ⟨i + 1, ⟨by rw [hst], step_i (by omega), by rw [hst]⟩, by omega, by omega⟩
    · rw [decide_eq_false h0, cond_false]
      rw [if_neg h0] at hst
      have w : IntKind.i64.wrap (y.getD i 0 - max (min (y.getD i 0) 1) (-1)) = y.getD i 0 - sgnI (y.getD i 0) := by unfold sgnI; rw [w64 (by omega) (by omega)]
      have hlI : List.set y i (y.getD i 0 - sgnI (y.getD i 0)) = lessI y i := rfl
      have hsm := less_small hl hq (i := i) (by omega)
      rw [w, hlI]
      refine ⟨⟨⟨by omega, by omega⟩, by omega, ⟨by omega, by omega⟩, by omega⟩, 0, ⟨⟨by rw [movJ, List.append_nil], rfl, by rw [movJ, List.append_nil]⟩, by omega⟩, fun j hj hw => ?_⟩
      clear hw
      have hn1 := movI_len y i
      have hn2 := movJ_len y i j
      have hn3 := gain_len (lessI y i) j
      have hjst : movJ y i (j + 1) = movJ y i j ++ if j = i then [] else gainL (lessI y i) j := rfl
      by_cases h4 : (j : Int) < 4
      · rw [decide_eq_true h4, cond_true]
        by_cases e : j = i
        · rw [decide_eq_true (show (j : Int) = (i : Int) by omega), Bool.not_true, cond_false]
          rw [if_pos e, List.append_nil] at hjst
          exact ⟨j + 1, ⟨by rw [hjst], step_i (by omega), by rw [hjst]; rfl⟩, by omega, by omega⟩
        · rw [decide_eq_false (show ¬ (j : Int) = (i : Int) by omega), Bool.not_false, cond_true, seg_all9, List.drop_zero]
          rw [if_neg e] at hjst
          have hap : List.append (movI y i) (movJ y i j) = movI y i ++ movJ y i j := rfl
          rw [hap]
          refine ⟨⟨⟨⟨by omega, by omega⟩, hsm⟩, by omega, by omega, by rw [List.length_append]; omega⟩, j + 1, ⟨?_, step_i (by omega), ?_⟩, by omega, by omega⟩
          · rw [hjst, ← List.append_assoc]; exact List.length_append.symm
          · rw [hjst, ← List.append_assoc]; rfl
      · have : j = 4 := by omega
        subst this
        rw [decide_eq_false h4, cond_false]
        exact ⟨i + 1, ⟨by rw [hst], step_i (by omega), by rw [hst]; rfl⟩, by omega, by omega⟩
  · have : i = 4 := by omega
    subst this
    rw [decide_eq_false h, cond_false]
    exact ⟨rfl, rfl⟩
theorem puret45 (z k : List Int) (p : Int × List Int × List (List Int)) (w : Int × Int) (s : List Int × List (List Int)) (y : List Int) (hp : smallV y ∧ smallV z) : Pt45 z k p w s y := by
  unfold Pt45 goodT
  simp only [eq_self, and_true]
  by_cases h : (parK k p.1 w.1 z).1 = w.2
  · rw [decide_eq_true h, cond_true]
    exact ⟨hp, rfl⟩
  · rw [decide_eq_false h, cond_false]
    exact ⟨id, rfl⟩
theorem hwt44 {y k : List Int} {p : Int × List Int × List (List Int)} {w : Int × Int} {s : List Int × List (List Int)} {x : List Int} (hw : Go.SL.allP (List.flatMap (fun a : AV => a.t.wf a.x) [⟨.arr 4 (.int .i64), y⟩, ⟨.ref .func, .func (.func 45) [] [.ptr 0 (.arr 16 (.int .u8)) [0], .ptr 1 (.cons (.int .i64) (.last (.cons (.arr 8 (.int .i64)) (.last (.arr 8 (.arr 4 (.int .i64))))))) [0], .ptr 2 (.cons (.int .i64) (.last (.int .i64))) [0], .ptr 3 (.cons (.arr 8 (.int .i64)) (.last (.arr 8 (.arr 4 (.int .i64))))) [0], .ptr 4 (.arr 4 (.int .i64)) [0]]⟩] ++ List.flatMap Blk.wf [⟨false, true, .arr 16 (.int .u8), [k]⟩, ⟨false, true, (.cons (.int .i64) (.last (.cons (.arr 8 (.int .i64)) (.last (.arr 8 (.arr 4 (.int .i64))))))), [p]⟩, ⟨false, true, (.cons (.int .i64) (.last (.int .i64))), [w]⟩, ⟨false, true, (.cons (.arr 8 (.int .i64)) (.last (.arr 8 (.arr 4 (.int .i64))))), [s]⟩, ⟨false, true, .arr 4 (.int .i64), [x]⟩])) : y.length = 4 := by
  simp only [List.flatMap_cons, List.flatMap_nil, Ty.wf, List.append_nil, List.cons_append, List.nil_append, Go.SL.allP, Blk.wf] at hw
  exact hw.1
theorem puret44 (y k : List Int) (p : Int × List Int × List (List Int)) (w : Int × Int) (s : List Int × List (List Int)) (x : List Int) (hp : pulsesF y ≤ 12 ∧ x = y) (hl : y.length = 4) : Pt44 y k p w s x := by
  obtain ⟨hq, rfl⟩ := hp
  unfold Pt44
  have z0 : (0 : Int) :: List.replicate 3 0 = List.replicate 4 0 := rfl
  simp only [eq_self, true_and, and_true, Int.toNat_natCast, z0, Nat.zero_add]
  generalize goodT k p.1 s.1 w.1 w.2 x = good
  have hlen := movI_len x 4
  refine ⟨hq, 0, ⟨⟨rfl, rfl, rfl⟩, by omega⟩, fun i hi hw => ?_⟩
  clear hw
  by_cases h : (i : Int) < ((movL x).length : Int)
  · have hm : (movL x).getD i (List.replicate 4 0) ∈ movL x := getD_mem (by omega)
    have hst : nearTo good x (i + 1) = nearStep good (nearTo good x i) ((movL x).getD i (List.replicate 4 0)) := rfl
    have hs : sumSz x ≤ 12 := by unfold pulsesF at hq; split at hq <;> omega
    rw [decide_eq_true h, cond_true]
    generalize (movL x).getD i (List.replicate 4 0) = z at *
    obtain ⟨a, b, M⟩ := mov_mem hm
    have hz4 := M.len hl
    have hzs := M.sz hl hs
    have hzp := pulses_sz hz4 (by omega)
    have hb4 : (movL x).length ≤ 32 := hlen
    refine ⟨⟨⟨by omega, by omega⟩, by omega⟩, ⟨by omega, by omega⟩, ?_⟩
    have hsmx := small_pulses hl hq
    have hsmz := small_pulses hz4 (by omega)
    generalize nearTo good x i = st at *
    have fin : ∀ c : Bool, (decide ((indexF z).2 = 0) && (good z && (decide (st.2 < 0) || decide ((indexF z).1 < st.2)))) = c →
        bif c then ∃ y_1, ((indexF z).1 = (nearTo good x y_1).2 ∧ IntKind.i64.wrap ((i : Int) + 1) = (y_1 : Int) ∧ z = (nearTo good x y_1).1) ∧ y_1 ≤ (movL x).length ∧ (movL x).length - y_1 < (movL x).length - i
        else ∃ y_1, (st.2 = (nearTo good x y_1).2 ∧ IntKind.i64.wrap ((i : Int) + 1) = (y_1 : Int) ∧ st.1 = (nearTo good x y_1).1) ∧ y_1 ≤ (movL x).length ∧ (movL x).length - y_1 < (movL x).length - i := fun c hc => by
      unfold nearStep at hst
      cases c with
      | true =>
        rw [if_pos hc] at hst
        exact ⟨i + 1, ⟨by rw [hst], step_i (by omega), by rw [hst]⟩, by omega, by omega⟩
      | false =>
        rw [if_neg (by rw [hc]; decide)] at hst
        exact ⟨i + 1, ⟨by rw [hst], step_i (by omega), by rw [hst]⟩, by omega, by omega⟩
    by_cases h0 : (indexF z).2 = 0
    · rw [decide_eq_true h0, cond_true]
      rw [decide_eq_true h0, Bool.true_and] at fin
      rintro b1 rfl b2 rfl
      refine ⟨⟨⟨hsmx, hsmz⟩, fun h => h, fun h => ⟨h, h⟩, fun h => ⟨by rw [h]; rfl, fun h' => by rw [h, h']; rfl⟩, fun h => h⟩, ?_⟩
      have e : (bif good z then bif decide (st.2 < 0) then true else decide ((indexF z).1 < st.2) else false) = (good z && (decide (st.2 < 0) || decide ((indexF z).1 < st.2))) := by
        cases good z <;> cases decide (st.2 < 0) <;> rfl
      rw [e]
      exact fin _ rfl
    · rw [decide_eq_false h0, cond_false]
      rw [decide_eq_false h0, Bool.false_and] at fin
      rintro b1 rfl b2 rfl
      exact ⟨by simp, fin _ rfl⟩
  · have : i = (movL x).length := by omega
    subst this
    rw [decide_eq_false h, cond_false]
    rfl
theorem hwt43 {s : List Int × List (List Int)} (hw : Go.SL.allP (List.flatMap (fun a : AV => a.t.wf a.x) [⟨(.cons (.arr 8 (.int .i64)) (.last (.arr 8 (.arr 4 (.int .i64))))), s⟩] ++ List.flatMap Blk.wf [])) : s.2.length = 8 := by
  simp only [List.flatMap_cons, List.flatMap_nil, Ty.wf, List.append_nil, List.cons_append, List.nil_append, Go.SL.allP] at hw
  obtain ⟨-, -, h, -⟩ := hw
  exact h
theorem puret43 (s : List Int × List (List Int)) (hl : s.2.length = 8) : Pt43 s := by
  obtain ⟨S, Y⟩ := s
  unfold Pt43 rightT
  dsimp only at hl ⊢
  simp only [eq_self, true_and, and_true, Int.toNat_natCast]
  refine ⟨0, ⟨rfl, by omega, rfl⟩, fun i hi hw => ?_⟩
  clear hw
  obtain ⟨hi, hall⟩ := hi
  by_cases h : (i : Int) < 8
  · rw [decide_eq_true h, cond_true]
    refine ⟨⟨by omega, by omega⟩, ?_⟩
    have hm : Y.getD i (List.replicate 4 0) ∈ Y := getD_mem (by omega)
    by_cases c : pulsesF (Y.getD i (List.replicate 4 0)) ≤ 12
    · rw [decide_eq_true c, Bool.not_true, cond_false]
      refine ⟨i + 1, step_i (by omega), ⟨by omega, ?_⟩, by omega⟩
      rw [take_snoc' (List.replicate 4 0) (show i < Y.length by omega), List.all_append, hall]
      show (true && (decide (pulsesF (Y.getD i (List.replicate 4 0)) ≤ 12) && true)) = true
      rw [decide_eq_true c]; rfl
    · rw [decide_eq_false c, Bool.not_false, cond_true]
      have : (Y.all fun y => decide (pulsesF y ≤ 12)) = false := by
        rw [List.all_eq_false]
        exact ⟨_, hm, by simpa using c⟩
      rw [this]; rfl
  · have : i = 8 := by omega
    subst this
    rw [decide_eq_false h, cond_false]
    rw [List.take_of_length_le (by omega)] at hall
    rw [hall]; rfl
theorem wish_at (k : List Int) (f own back : Int) {i : Nat} (hi : i < 6) : (wishTo k f own back 3).getD i (0, 0) = ((bandsK k f).getD i 0, wishBit own back i) := by
  unfold wishTo
  rw [List.getD_eq_getElem?_getD, List.getElem?_map, List.getElem?_range hi]
  simp only [Option.map_some, Option.getD_some]
  rw [if_pos (by omega)]
theorem eqbW (x y : Int × Int) : Ty.eqb (.cons (.int .i64) (.last (.int .i64))) x y = (decide (x.1 = y.1) && decide (x.2 = y.2)) := rfl
theorem hwt15 {k : List Int} {p : Int × List Int × List (List Int)} {a : ByteArray} (hw : Go.SL.allP (List.flatMap (fun a : AV => a.t.wf a.x) [⟨.arr 16 (.int .u8), k⟩, ⟨(.cons (.int .i64) (.last (.cons (.arr 8 (.int .i64)) (.last (.arr 8 (.arr 4 (.int .i64))))))), p⟩, ⟨.str, a⟩] ++ List.flatMap Blk.wf [])) : p.2.1.length = 8 ∧ p.2.2.length = 8 ∧ ∀ y ∈ p.2.2, y.length = 4 := by
  simp only [List.flatMap_cons, List.flatMap_nil, Ty.wf, List.append_nil, List.cons_append, List.nil_append, Go.SL.allP] at hw
  obtain ⟨-, -, -, -, h, -, h1, h2, -⟩ := hw
  exact ⟨h, h1, fun y hy => (h2 y hy).1⟩
theorem rt_of {s : SHM} (l1 : s.1.length = 8) (l8 : s.2.length = 8) (l4 : ∀ y ∈ s.2, y.length = 4) (h : rightT s = true) : Rt s := by
  unfold rightT at h
  rw [Bool.and_eq_true] at h
  obtain ⟨h1, h2⟩ := h
  have hy : ∀ y ∈ s.2, pulsesF y ≤ 12 := fun y hy => of_decide_eq_true (List.all_eq_true.1 h1 y hy)
  have hs : ∀ y ∈ s.2, sumSz y ≤ 12 := fun y hm => by have := hy y hm; unfold pulsesF at this; split at this <;> omega
  exact ⟨l1, l8, l4, List.all_eq_true.2 fun y hm => okRow_of (hs y hm), fun b hb => hs _ (getD_mem (by omega)), h2⟩
theorem par_few {k : List Int} {f b : Int} {y : List Int} (h : (parK k f b y).2 = true) : pulsesF y ≤ 12 := by
  unfold parK at h
  split at h
  · cases h
  · rename_i hc
    by_cases c : pulsesF y ≤ 12
    · exact c
    · exact absurd (by rw [decide_eq_true (show 12 < pulsesF y by omega)]; simp) hc
/-- One turn of the putting in of tags. -/
theorem put_turn {k : List Int} {f : Int} {t t' : SHM} {b bit : Int} {i : Nat} (hb : 0 ≤ b ∧ b < 8) (l8 : t.2.length = 8) (hst : t' = (t.1, List.set t.2 b.toNat (putY k f t.1 b bit (rowZ t.2 b)))) (hi : i < 6) (g : Nat → SHM) (hg : g (i + 1) = t') :
    ∀ (b_1 : Bool), (!(parK k f b (rowZ t.2 b)).2) = b_1 → (((!b_1) = true → (!b_1) = true) ∧ ((!b_1) = true → (!b_1) = true ∧ (!b_1) = true) ∧ ((!b_1) = true → (!b_1) = true ∧ (!b_1) = true) ∧ (b_1 = false → (!b_1) = true)) ∧
      bif bif b_1 then true else Ty.eqb (.cons (.int .i64) (.last (.int .i64))) (b, bit) (b, (parK k f b (rowZ t.2 b)).1) then
        ∃ y : Nat, (IntKind.i64.wrap ((i : Int) + 1) = (y : Int) ∧ t.1 = (g y).1 ∧ t.2 = (g y).2) ∧ y ≤ 6 ∧ 6 - y < 6 - i
      else ((0 ≤ b ∧ b < 8) ∧ b.toNat < 8) ∧ (pulsesF (rowZ t.2 b) ≤ 12 ∧ (0 ≤ b ∧ b < 8) ∧ b.toNat < 8) ∧
        ∃ y : Nat, (IntKind.i64.wrap ((i : Int) + 1) = (y : Int) ∧ t.1 = (g y).1 ∧ List.set t.2 b.toNat (nearF (goodT k f t.1 b bit (rowZ t.2 b)) (rowZ t.2 b)) = (g y).2) ∧ y ≤ 6 ∧ 6 - y < 6 - i := by
  rintro b1 rfl
  refine ⟨⟨fun h => h, fun h => ⟨h, h⟩, fun h => ⟨h, h⟩, fun h => by rw [h]; rfl⟩, ?_⟩
  rw [eqbW]
  dsimp only
  rw [decide_eq_true (show b = b from rfl), Bool.true_and]
  subst hst
  by_cases c : (parK k f b (rowZ t.2 b)).2 = true ∧ (parK k f b (rowZ t.2 b)).1 ≠ bit
  · have e : (bif !(parK k f b (rowZ t.2 b)).2 then true else decide (bit = (parK k f b (rowZ t.2 b)).1)) = false := by
      rw [c.1, decide_eq_false (fun h => c.2 h.symm)]; rfl
    rw [e, cond_false]
    unfold putY at hg
    rw [if_pos c] at hg
    exact ⟨⟨hb, by omega⟩, ⟨par_few c.1, hb, by omega⟩, i + 1, ⟨step_i (by omega), by rw [hg], by rw [hg]; rfl⟩, by omega, by omega⟩
  · have e : (bif !(parK k f b (rowZ t.2 b)).2 then true else decide (bit = (parK k f b (rowZ t.2 b)).1)) = true := by
      cases hc : (parK k f b (rowZ t.2 b)).2 with
      | false => rfl
      | true =>
        rw [Bool.not_true, cond_false, decide_eq_true]
        by_cases q : (parK k f b (rowZ t.2 b)).1 = bit
        · exact q.symm
        · exact absurd ⟨hc, q⟩ c
    rw [e, cond_true]
    unfold putY at hg
    rw [if_neg c] at hg
    have same : List.set t.2 b.toNat (rowZ t.2 b) = t.2 := set_same (L := t.2) (b := b.toNat) (y := rowZ t.2 b) rfl (by omega)
    rw [same] at hg
    exact ⟨i + 1, ⟨step_i (by omega), by rw [hg], by rw [hg]⟩, by omega, by omega⟩
theorem puret15 (k : List Int) (p : Int × List Int × List (List Int)) (a : ByteArray) (hp : ByteArray.size a ≤ 1000000) (hl : p.2.1.length = 8 ∧ p.2.2.length = 8 ∧ ∀ y ∈ p.2.2, y.length = 4) : Pt15 k p a := by
  obtain ⟨f, s⟩ := p
  obtain ⟨l1, l8, l4⟩ := hl
  unfold Pt15
  dsimp only at l1 l8 l4 ⊢
  have es : (s.1, s.2) = s := rfl
  simp only [eq_self, true_and, and_true, Int.toNat_natCast, es]
  unfold putG
  cases hr : rightT s with
  | false => exact ⟨rfl, rfl⟩
  | true =>
    have R := rt_of l1 l8 l4 hr
    rw [Bool.not_true, cond_false, if_pos rfl]
    generalize ownK k f s = own
    generalize aheadK k a = back
    have B := bands_ok k f
    have P := fun i hi => putT_ok (k := k) (f := f) own back R i hi
    have hst : ∀ i, tagT k f own back s (i + 1) = ((tagT k f own back s i).1, List.set (tagT k f own back s i).2 ((bandsK k f).getD i 0).toNat (putY k f (tagT k f own back s i).1 ((bandsK k f).getD i 0) (wishBit own back i) (rowZ (tagT k f own back s i).2 ((bandsK k f).getD i 0)))) := fun i => rfl
    have h0 : tagT k f own back s 0 = s := rfl
    have l8t := fun i hi => (P i hi).l8
    clear P
    generalize tagT k f own back s = g at hst h0 l8t ⊢
    refine ⟨hp, 0, ⟨⟨rfl, by rw [h0], by rw [h0]⟩, by omega⟩, fun i hi hw => ?_⟩
    clear hw
    by_cases h : (i : Int) < 6
    · have hb := B.fit i (by omega)
      rw [decide_eq_true h, cond_true, wish_at k f own back (show i < 6 by omega)]
      have T := put_turn (bit := wishBit own back i) hb (l8t i (by omega)) (hst i) (show i < 6 by omega) g rfl
      dsimp only
      have hrow : List.getD (g i).2 ((bandsK k f).getD i 0).toNat (List.replicate 4 0) = rowZ (g i).2 ((bandsK k f).getD i 0) := rfl
      rw [hrow]
      generalize rowZ (g i).2 ((bandsK k f).getD i 0) = y0 at T ⊢
      generalize (bandsK k f).getD i 0 = b at hb T ⊢
      generalize wishBit own back i = bit at T ⊢
      exact ⟨⟨by omega, by omega⟩, ⟨⟨hb.1, hb.2⟩, by omega⟩, T⟩
    · have : i = 6 := by omega
      subst this
      rw [decide_eq_false h, cond_false]
      exact ⟨rfl, rfl⟩
/-- One turn of the asking. -/
theorem ask_turn {can neq : Bool} {i : Nat} (hi : i < 6) {a b c d : Int} (ha : 0 ≤ a ∧ a ≤ 10) (hb : 0 ≤ b ∧ b ≤ 10) (hc : 0 ≤ c ∧ c ≤ 10) (hd : 0 ≤ d ∧ d ≤ 10) (g : Nat → List (List Int)) {q : Int}
    (hg : g (i + 1) = if q = 0 then [[a + if can then 1 else 0, b + if can && neq then 1 else 0], [c, d]] else [[a, b], [c + if can then 1 else 0, d + if can && neq then 1 else 0]]) (hq : q = 0 ∨ q = 1) {L : List (List Int)} (hL : L = [[a, b], [c, d]]) :
    bif can then ((3 : Int) ≠ 0 ∧ (0 ≤ q ∧ q < 2) ∧ ((0 : Int) ≤ 0 ∧ (0 : Int) < 2) ∧ q.toNat < 2 ∧ (0 : Nat) < 2 ∧ (0 ≤ q ∧ q < 2) ∧ ((0 : Int) ≤ 0 ∧ (0 : Int) < 2) ∧ q.toNat < 2 ∧ (0 : Nat) < 2) ∧
      ∀ (e : Bool), can = e → ((e = true → e = true) ∧ (e = true → e = true ∧ e = true) ∧ (e = true → e = true)) ∧ bif bif e then neq else false then
        ((3 : Int) ≠ 0 ∧ (0 ≤ q ∧ q < 2) ∧ ((0 : Int) ≤ 1 ∧ (1 : Int) < 2) ∧ q.toNat < 2 ∧ (1 : Nat) < 2 ∧ (0 ≤ q ∧ q < 2) ∧ ((0 : Int) ≤ 1 ∧ (1 : Int) < 2) ∧ q.toNat < 2 ∧ (1 : Nat) < 2) ∧
        ∃ y : Nat, (IntKind.i64.wrap ((i : Int) + 1) = (y : Int) ∧ List.set (List.set L q.toNat (List.set (List.getD L q.toNat (List.replicate 2 0)) 0 (IntKind.i64.wrap (List.getD (List.getD L q.toNat (List.replicate 2 0)) 0 0 + 1)))) q.toNat (List.set (List.getD (List.set L q.toNat (List.set (List.getD L q.toNat (List.replicate 2 0)) 0 (IntKind.i64.wrap (List.getD (List.getD L q.toNat (List.replicate 2 0)) 0 0 + 1)))) q.toNat (List.replicate 2 0)) 1 (IntKind.i64.wrap (List.getD (List.getD (List.set L q.toNat (List.set (List.getD L q.toNat (List.replicate 2 0)) 0 (IntKind.i64.wrap (List.getD (List.getD L q.toNat (List.replicate 2 0)) 0 0 + 1)))) q.toNat (List.replicate 2 0)) 1 0 + 1))) = g y) ∧ y ≤ 6 ∧ 6 - y < 6 - i
        else ∃ y : Nat, (IntKind.i64.wrap ((i : Int) + 1) = (y : Int) ∧ List.set L q.toNat (List.set (List.getD L q.toNat (List.replicate 2 0)) 0 (IntKind.i64.wrap (List.getD (List.getD L q.toNat (List.replicate 2 0)) 0 0 + 1))) = g y) ∧ y ≤ 6 ∧ 6 - y < 6 - i
    else ∀ (e : Bool), can = e → ((e = true → e = true) ∧ (e = true → e = true ∧ e = true) ∧ (e = true → e = true)) ∧ bif bif e then neq else false then
        ((3 : Int) ≠ 0 ∧ (0 ≤ q ∧ q < 2) ∧ ((0 : Int) ≤ 1 ∧ (1 : Int) < 2) ∧ q.toNat < 2 ∧ (1 : Nat) < 2 ∧ (0 ≤ q ∧ q < 2) ∧ ((0 : Int) ≤ 1 ∧ (1 : Int) < 2) ∧ q.toNat < 2 ∧ (1 : Nat) < 2) ∧
        ∃ y : Nat, (IntKind.i64.wrap ((i : Int) + 1) = (y : Int) ∧ List.set L q.toNat (List.set (List.getD L q.toNat (List.replicate 2 0)) 1 (IntKind.i64.wrap (List.getD (List.getD L q.toNat (List.replicate 2 0)) 1 0 + 1))) = g y) ∧ y ≤ 6 ∧ 6 - y < 6 - i
        else ∃ y : Nat, (IntKind.i64.wrap ((i : Int) + 1) = (y : Int) ∧ L = g y) ∧ y ≤ 6 ∧ 6 - y < 6 - i := by
  subst hL
  have wa : IntKind.i64.wrap (a + 1) = a + 1 := w64 (by omega) (by omega)
  have wb : IntKind.i64.wrap (b + 1) = b + 1 := w64 (by omega) (by omega)
  have wc : IntKind.i64.wrap (c + 1) = c + 1 := w64 (by omega) (by omega)
  have wd : IntKind.i64.wrap (d + 1) = d + 1 := w64 (by omega) (by omega)
  have s1 := step_i (i := i) (by omega)
  have fin : ∀ X : List (List Int), X = g (i + 1) → ∃ y : Nat, (IntKind.i64.wrap ((i : Int) + 1) = (y : Int) ∧ X = g y) ∧ y ≤ 6 ∧ 6 - y < 6 - i := fun X hX => ⟨i + 1, ⟨s1, hX⟩, by omega, by omega⟩
  rcases hq with rfl | rfl
  · rw [if_pos rfl] at hg
    cases can with
    | true =>
      rw [cond_true]
      refine ⟨by decide, ?_⟩
      rintro e rfl
      refine ⟨by simp, ?_⟩
      cases neq with
      | true =>
        refine ⟨by decide, fin _ ?_⟩
        rw [hg]
        show [[IntKind.i64.wrap (a + 1), IntKind.i64.wrap (b + 1)], [c, d]] = [[a + 1, b + 1], [c, d]]
        rw [wa, wb]
      | false =>
        refine fin _ ?_
        rw [hg]
        show [[IntKind.i64.wrap (a + 1), b], [c, d]] = [[a + 1, b + 0], [c, d]]
        rw [wa, Int.add_zero]
    | false =>
      rw [cond_false]
      rintro e rfl
      refine ⟨by simp, fin _ ?_⟩
      rw [hg]
      show [[a, b], [c, d]] = [[a + 0, b + 0], [c, d]]
      rw [Int.add_zero, Int.add_zero]
  · rw [if_neg (by decide)] at hg
    cases can with
    | true =>
      rw [cond_true]
      refine ⟨by decide, ?_⟩
      rintro e rfl
      refine ⟨by simp, ?_⟩
      cases neq with
      | true =>
        refine ⟨by decide, fin _ ?_⟩
        rw [hg]
        show [[a, b], [IntKind.i64.wrap (c + 1), IntKind.i64.wrap (d + 1)]] = [[a, b], [c + 1, d + 1]]
        rw [wc, wd]
      | false =>
        refine fin _ ?_
        rw [hg]
        show [[a, b], [IntKind.i64.wrap (c + 1), d]] = [[a, b], [c + 1, d + 0]]
        rw [wc, Int.add_zero]
    | false =>
      rw [cond_false]
      rintro e rfl
      refine ⟨by simp, fin _ ?_⟩
      rw [hg]
      show [[a, b], [c, d]] = [[a, b], [c + 0, d + 0]]
      rw [Int.add_zero, Int.add_zero]
theorem up_fit {F : Nat → Int} (h : ∀ n, 0 ≤ F n ∧ F n ≤ 1) (a : Nat) : ∀ n : Nat, 0 ≤ upSum F a n ∧ upSum F a n ≤ (n : Int)
  | 0 => by rw [upSum]; omega
  | n + 1 => by
    have := up_fit h a n
    have := h (a + n)
    rw [upSum]; omega
theorem four_last (a1 a2 a3 a4 : Int) : ([[a1, a3], [a2, a4]].getD 0 (List.replicate 2 0)).getD 0 0 = a1 ∧ ([[a1, a3], [a2, a4]].getD 1 (List.replicate 2 0)).getD 0 0 = a2 ∧ ([[a1, a3], [a2, a4]].getD 0 (List.replicate 2 0)).getD 1 0 = a3 ∧ ([[a1, a3], [a2, a4]].getD 1 (List.replicate 2 0)).getD 1 0 = a4 := ⟨rfl, rfl, rfl, rfl⟩
theorem puret14 (k : List Int) (p : Int × List Int × List (List Int)) (a : ByteArray) (hp : ByteArray.size a ≤ 1000000) (hl : p.2.1.length = 8 ∧ p.2.2.length = 8 ∧ ∀ y ∈ p.2.2, y.length = 4) : Pt14 k p a := by
  obtain ⟨f, s⟩ := p
  unfold Pt14
  dsimp only at hl ⊢
  have es : (s.1, s.2) = s := rfl
  simp only [eq_self, true_and, and_true, Int.toNat_natCast, es]
  generalize ownK k f s = own
  generalize aheadK k a = back
  have B := bands_ok k f
  have hc : ∀ n, 0 ≤ canN k f s n ∧ canN k f s n ≤ 1 := fun n => by unfold canN; split <;> omega
  have hbd : ∀ n, 0 ≤ badN k f s own back n ∧ badN k f s own back n ≤ 1 := fun n => by unfold badN; split <;> omega
  refine ⟨hp, 0, ⟨⟨rfl, rfl⟩, by omega⟩, fun i hi hw => ?_⟩
  clear hw
  by_cases h : (i : Int) < 6
  · have hb := B.fit i (by omega)
    have u1 := up_fit hc 0 (min i 3)
    have u2 := up_fit hbd 0 (min i 3)
    have u3 := up_fit hc 3 (i - 3)
    have u4 := up_fit hbd 3 (i - 3)
    have hq : IntKind.i64.wrap (Int.tdiv (i : Int) 3) = if i < 3 then 0 else 1 := by
      have := tdm (i : Int) (k := 3) (by omega)
      rw [w64 (by omega) (by omega)]
      split <;> omega
    have hq2 : (if i < 3 then (0 : Int) else 1) = 0 ∨ (if i < 3 then (0 : Int) else 1) = 1 := by split <;> omega
    have hL : askTo k f s own back i = [[upSum (canN k f s) 0 (min i 3), upSum (badN k f s own back) 0 (min i 3)], [upSum (canN k f s) 3 (i - 3), upSum (badN k f s own back) 3 (i - 3)]] := rfl
    have hg : askTo k f s own back (i + 1) = if (if i < 3 then (0 : Int) else 1) = 0 then [[upSum (canN k f s) 0 (min i 3) + canN k f s i, upSum (badN k f s own back) 0 (min i 3) + badN k f s own back i], [upSum (canN k f s) 3 (i - 3), upSum (badN k f s own back) 3 (i - 3)]]
        else [[upSum (canN k f s) 0 (min i 3), upSum (badN k f s own back) 0 (min i 3)], [upSum (canN k f s) 3 (i - 3) + canN k f s i, upSum (badN k f s own back) 3 (i - 3) + badN k f s own back i]] := by
      unfold askTo
      by_cases c : i < 3
      · rw [if_pos c, if_pos rfl, show min (i + 1) 3 = min i 3 + 1 by omega, show i + 1 - 3 = i - 3 by omega, upSum, upSum, show 0 + min i 3 = i by omega]
      · rw [if_neg c, if_neg (by decide), show min (i + 1) 3 = min i 3 by omega, show i + 1 - 3 = i - 3 + 1 by omega, upSum, upSum, show 3 + (i - 3) = i by omega]
    have v1 : (i : Nat) < 6 := by omega
    have T := fun (can neq : Bool) (hcn : canN k f s i = if can then 1 else 0) (hbn : badN k f s own back i = if can && neq then 1 else 0) => ask_turn (can := can) (neq := neq) v1 (show _ ∧ _ ≤ (10 : Int) from ⟨u1.1, by omega⟩) (show _ ∧ _ ≤ (10 : Int) from ⟨u2.1, by omega⟩) (show _ ∧ _ ≤ (10 : Int) from ⟨u3.1, by omega⟩) (show _ ∧ _ ≤ (10 : Int) from ⟨u4.1, by omega⟩) (askTo k f s own back) (by rw [hg, hcn, hbn]) hq2 hL
    clear hg hL u1 u2 u3 u4
    generalize askTo k f s own back = g at T ⊢
    obtain ⟨b, hbb⟩ : ∃ b, (bandsK k f).getD i 0 = b := ⟨_, rfl⟩
    have hcan : canN k f s i = if (parK k f b (List.getD s.2 b.toNat (List.replicate 4 0))).2 then 1 else 0 := by unfold canN rowZ; rw [hbb]
    have hbad : badN k f s own back i = if (parK k f b (List.getD s.2 b.toNat (List.replicate 4 0))).2 && !decide ((parK k f b (List.getD s.2 b.toNat (List.replicate 4 0))).1 = wishBit own back i) then 1 else 0 := by
      unfold badN rowZ
      rw [hbb]
      cases (parK k f b (List.getD s.2 b.toNat (List.replicate 4 0))).2 with
      | false => rfl
      | true =>
        by_cases e : (parK k f b (List.getD s.2 b.toNat (List.replicate 4 0))).1 = wishBit own back i
        · rw [if_neg (fun x => x.2 e), decide_eq_true e]; rfl
        · rw [if_pos ⟨rfl, e⟩, decide_eq_false e]; rfl
    rw [hbb] at hb
    rw [decide_eq_true h, cond_true, wish_at k f own back (show i < 6 by omega), hbb, hq]
    dsimp only
    generalize parK k f b (List.getD s.2 b.toNat (List.replicate 4 0)) = pk at hcan hbad ⊢
    exact ⟨⟨by omega, by omega⟩, ⟨⟨hb.1, hb.2⟩, by omega⟩, T _ _ hcan hbad⟩
  · have : i = 6 := by omega
    subst this
    rw [decide_eq_false h, cond_false]
    have e1 : askTo k f s own back 6 = [[upSum (canN k f s) 0 3, upSum (badN k f s own back) 0 3], [upSum (canN k f s) 3 3, upSum (badN k f s own back) 3 3]] := by
      unfold askTo
      rw [show min 6 3 = 3 by decide, show 6 - 3 = 3 by decide]
    rw [e1]
    unfold askT
    generalize upSum (canN k f s) 0 3 = a1
    generalize upSum (canN k f s) 3 3 = a2
    generalize upSum (badN k f s own back) 0 3 = a3
    generalize upSum (badN k f s own back) 3 3 = a4
    exact ⟨by decide, four_last a1 a2 a3 a4⟩
end Go.SL.A

/- Functions do what they are held to do. -/
namespace Go.SL.A
open Go Go.SL Go.SL.S
theorem sndt124 : Sound Go.Proofs.Tryd.prog Gt124 := sndt41.add ⟨_, Go.Proofs.Tryd.func124, by kernel_rfl, by kernel_rfl⟩ (by
  intro args ins out h hp
  unfold spt124 at h
  split at h
  · rename_i y j
    cases h
    exact vcFun_ok (C := Ct124) good sndt41 Meth.none mix Go.Proofs.Tryd.func124 (annt124 y j) (fun hw => by rw [← vct124 y j]; exact puret124 y j hp (hwt124 hw))
  · cases h)

theorem sndt86 : Sound Go.Proofs.Tryd.prog Gt86 := sndt124.add ⟨_, Go.Proofs.Tryd.func86, by kernel_rfl, by kernel_rfl⟩ (by
  intro args ins out h hp
  unfold spt86 at h
  split at h
  · rename_i y
    cases h
    exact vcFun_ok (C := Ct86) good sndt124 Meth.none mix Go.Proofs.Tryd.func86 (annt86 y) (fun hw => by rw [← vct86 y]; exact puret86 y hp (hwt83 hw))
  · cases h)

theorem sndt45 : Sound Go.Proofs.Tryd.prog Gt45 := sndt86.add ⟨_, Go.Proofs.Tryd.func45, by kernel_rfl, by kernel_rfl⟩ (by
  intro args ins out h hp
  unfold spt45 at h
  split at h
  · rename_i z k p w s y
    cases h
    exact vcFun_ok (C := Ct45) good sndt86 Meth.none mix Go.Proofs.Tryd.func45 (annt45 z k p w s y) (fun hw => by rw [← vct45 z k p w s y]; exact puret45 z k p w s y hp)
  · cases h)

theorem sndt44 : Sound Go.Proofs.Tryd.prog Gt44 := sndt45.add ⟨_, Go.Proofs.Tryd.func44, by kernel_rfl, by kernel_rfl⟩ (by
  intro args ins out h hp
  unfold spt44 at h
  split at h
  · rename_i y k p w s x
    cases h
    exact vcFun_ok (C := Ct44) good sndt45 Meth.none mix Go.Proofs.Tryd.func44 (annt44 y k p w s x) (fun hw => by rw [← vct44 y k p w s x]; exact puret44 y k p w s x hp (hwt44 hw))
  · cases h)

theorem sndt43 : Sound Go.Proofs.Tryd.prog Gt43 := sndt44.add ⟨_, Go.Proofs.Tryd.func43, by kernel_rfl, by kernel_rfl⟩ (by
  intro args ins out h hp
  unfold spt43 at h
  split at h
  · rename_i s
    cases h
    exact vcFun_ok (C := Ct43) good sndt44 Meth.none mix Go.Proofs.Tryd.func43 (annt43 s) (fun hw => by rw [← vct43 s]; exact puret43 s (hwt43 hw))
  · cases h)

theorem sndt15 : Sound Go.Proofs.Tryd.prog Gt15 := sndt43.add ⟨_, Go.Proofs.Tryd.func15, by kernel_rfl, by kernel_rfl⟩ (by
  intro args ins out h hp
  unfold spt15 at h
  split at h
  · rename_i k p a
    cases h
    exact vcFun_ok (C := Ct15) good sndt43 Meth.none mix Go.Proofs.Tryd.func15 (annt15 k p a) (fun hw => by rw [← vct15 k p a]; exact puret15 k p a hp (hwt15 hw))
  · cases h)

theorem sndt14 : Sound Go.Proofs.Tryd.prog Gt14 := sndt15.add ⟨_, Go.Proofs.Tryd.func14, by kernel_rfl, by kernel_rfl⟩ (by
  intro args ins out h hp
  unfold spt14 at h
  split at h
  · rename_i k p a
    cases h
    exact vcFun_ok (C := Ct14) good sndt15 Meth.none mix Go.Proofs.Tryd.func14 (annt14 k p a) (fun hw => by rw [← vct14 k p a]; exact puret14 k p a hp (hwt15 hw))
  · cases h)

end Go.SL.A
