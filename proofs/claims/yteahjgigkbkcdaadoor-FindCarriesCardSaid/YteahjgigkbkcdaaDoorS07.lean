/- Part 7 of what the statements of this seat need: a logic of states for the code of the model, the functions that they reach, and what these are held to do: no condition. -/
import Derived.Test.YteahjgigkbkcdaaDoorS06

/- Functions and what they are held to do: bound to their code. -/
namespace Go.SL.A
open Go Go.SL Go.SL.S
set_option maxRecDepth 100000
noncomputable def Cv8 : Ctx := ⟨Go.Proofs.Tryd.prog, D, Gv19, (fun _ _ => none), fun _ => []⟩
def annv8 (k : List Int) (l : List (Int × List Int × List (List Int))) (_a _c : Int) (_n : Nat) : Nat → St → Option Ann := fun id S => match id with | 0 => some ⟨Nat, [1, 2, 4, 9, 10], [0, 1, 2], fun i => [(12, .v (.int .i64) (S.i 2 + (i : Int))), (11, .v (.int .i64) ((srchL k l (S.i 2) i).length : Int))], fun _ => [], fun i => (i : Int) ≤ S.i 9 - S.i 2 + 1, fun i => (S.i 9 - S.i 2 + 1).toNat - i⟩ | 2 => some ⟨Nat, [1, 2, 4, 9, 10, 11, 12], [0, 1, 2], fun j => [(14, .v (.int .i64) (j : Int)), (13, .v (.ref .slice) (.slice 3 (.cons (.int .i64) (.last (.cons (.arr 8 (.int .i64)) (.last (.arr 8 (.arr 4 (.int .i64))))))) [] 0 (shiftTo l (S.i 12) j).length))], fun j => [(3, some ⟨false, false, (.cons (.int .i64) (.last (.cons (.arr 8 (.int .i64)) (.last (.arr 8 (.arr 4 (.int .i64))))))), shiftTo l (S.i 12) j⟩)], fun j => j ≤ l.length, fun j => l.length - j⟩ | _ => some ⟨Nat, [1, 2, 4, 9, 10, 11, 12, 13, 14], [0, 1, 2, 3], fun q => [(16, .v (.int .i64) (q : Int)), (15, .v .bool (!hasF (l.take q) (l.getD (S.i 14).toNat zeroK).1))], fun _ => [], fun q => (q : Int) ≤ S.i 14, fun q => (S.i 14).toNat - q⟩
def outv8 (_k : List Int) (l : List (Int × List Int × List (List Int))) (_a _c : Int) (n : Nat) : COut := ⟨[n = l.length], .v .bool true, [], []⟩
def spv8 : Spec := fun args ins => match args, ins with
  | [⟨.arr 16 (.int .u8), k⟩, ⟨.ref .slice, .slice 0 (.cons (.int .i64) (.last (.cons (.arr 8 (.int .i64)) (.last (.arr 8 (.arr 4 (.int .i64))))))) [] 0 n⟩, ⟨.int .i64, a⟩, ⟨.int .u8, c⟩], [⟨true, false, (.cons (.int .i64) (.last (.cons (.arr 8 (.int .i64)) (.last (.arr 8 (.arr 4 (.int .i64))))))), l⟩] => some (outv8 k l a c n)
  | _, _ => none
def Gv8 := addG Gv19 8 spv8
def Pv8 (k : List Int) (l : List (Int × List Int × List (List Int))) (a c : Int) (n : Nat) : Prop :=
 ∀ (b:Bool),false=b→(((!b)=true→(!b)=true)∧((!b)=true→(!b)=true)∧(b=false→(!b)=true))∧bif bif b then true else decide (200<(n:Int)) then true=true∧l=l∧true=true else (100000:Int)≠0∧(4:Int)≠0∧((n=List.length l∧n≤1000000)∧((-1000000:Int)≤Int.tmod
 a (100000:Int)∧Int.tmod a (100000:Int)≤1000000)∧(-1000000:Int)≤IntKind.wrap .i64 (Int.tmod a (100000:Int)+Int.tmod (IntKind.wrap .i64 c) (4:Int))∧IntKind.wrap .i64 (Int.tmod a (100000:Int)+Int.tmod (IntKind.wrap .i64 c) (4:Int))≤1000000)∧∃
 (x:Nat),((0=0∧n=n∧Int.tmod a (100000:Int)=Int.tmod a (100000:Int)∧0=0∧IntKind.wrap .i64 (Int.tmod a (100000:Int)+Int.tmod (IntKind.wrap .i64 c) (4:Int))=IntKind.wrap .i64 (Int.tmod a (100000:Int)+Int.tmod (IntKind.wrap .i64 c) (4:Int))∧0=0∧List.length
 (srchL k l (Int.tmod a (100000:Int)) (srchN (Int.tmod a (100000:Int)) (IntKind.wrap .i64 (Int.tmod a (100000:Int)+Int.tmod (IntKind.wrap .i64 c) (4:Int)))))=List.length (srchL k l (Int.tmod a (100000:Int)) (srchN (Int.tmod a (100000:Int))
 (IntKind.wrap .i64 (Int.tmod a (100000:Int)+Int.tmod (IntKind.wrap .i64 c) (4:Int)))))∧0=(↑ (List.length (srchL k l (Int.tmod a (100000:Int)) x)):Int)∧Int.tmod a (100000:Int)=Int.tmod a (100000:Int)+(x:Int)∧l=l∧true=true∧k=k∧false=false∧srchL
 k l (Int.tmod a (100000:Int)) (srchN (Int.tmod a (100000:Int)) (IntKind.wrap .i64 (Int.tmod a (100000:Int)+Int.tmod (IntKind.wrap .i64 c) (4:Int))))=srchL k l (Int.tmod a (100000:Int)) (srchN (Int.tmod a (100000:Int)) (IntKind.wrap
 .i64 (Int.tmod a (100000:Int)+Int.tmod (IntKind.wrap .i64 c) (4:Int))))∧false=false)∧(x:Int)≤IntKind.wrap .i64 (Int.tmod a (100000:Int)+Int.tmod (IntKind.wrap .i64 c) (4:Int)) - Int.tmod a (100000:Int)+1)∧∀ (x:Nat),(x:Int)≤IntKind.wrap
 .i64 (Int.tmod a (100000:Int)+Int.tmod (IntKind.wrap .i64 c) (4:Int)) - Int.tmod a (100000:Int)+1→IntKind.min .i64≤Int.tmod a (100000:Int)+(x:Int)∧Int.tmod a (100000:Int)+(x:Int)≤IntKind.max .i64∧IntKind.min .i64≤(↑ (List.length (srchL
 k l (Int.tmod a (100000:Int)) x)):Int)∧(↑ (List.length (srchL k l (Int.tmod a (100000:Int)) x)):Int)≤IntKind.max .i64→bif decide (Int.tmod a (100000:Int)+(x:Int)≤IntKind.wrap .i64 (Int.tmod a (100000:Int)+Int.tmod (IntKind.wrap .i64
 c) (4:Int))) then ∃ (x_1:Nat),((0=0∧n=n∧Int.tmod a (100000:Int)=Int.tmod a (100000:Int)∧0=0∧IntKind.wrap .i64 (Int.tmod a (100000:Int)+Int.tmod (IntKind.wrap .i64 c) (4:Int))=IntKind.wrap .i64 (Int.tmod a (100000:Int)+Int.tmod (IntKind.wrap
 .i64 c) (4:Int))∧0=0∧List.length (srchL k l (Int.tmod a (100000:Int)) (srchN (Int.tmod a (100000:Int)) (IntKind.wrap .i64 (Int.tmod a (100000:Int)+Int.tmod (IntKind.wrap .i64 c) (4:Int)))))=List.length (srchL k l (Int.tmod a (100000:Int))
 (srchN (Int.tmod a (100000:Int)) (IntKind.wrap .i64 (Int.tmod a (100000:Int)+Int.tmod (IntKind.wrap .i64 c) (4:Int)))))∧(↑ (List.length (srchL k l (Int.tmod a (100000:Int)) x)):Int)=(↑ (List.length (srchL k l (Int.tmod a (100000:Int))
 x)):Int)∧Int.tmod a (100000:Int)+(x:Int)=Int.tmod a (100000:Int)+(x:Int)∧List.length (shiftTo l (Int.tmod a (100000:Int)+(x:Int)) x_1)=0∧0=(x_1:Int)∧l=l∧true=true∧k=k∧false=false∧srchL k l (Int.tmod a (100000:Int)) (srchN (Int.tmod
 a (100000:Int)) (IntKind.wrap .i64 (Int.tmod a (100000:Int)+Int.tmod (IntKind.wrap .i64 c) (4:Int))))=srchL k l (Int.tmod a (100000:Int)) (srchN (Int.tmod a (100000:Int)) (IntKind.wrap .i64 (Int.tmod a (100000:Int)+Int.tmod (IntKind.wrap
 .i64 c) (4:Int))))∧false=false∧shiftTo l (Int.tmod a (100000:Int)+(x:Int)) x_1=[])∧x_1≤List.length l)∧∀ (x_2:Nat),x_2≤List.length l→(IntKind.min .i64≤(x_2:Int)∧(x_2:Int)≤IntKind.max .i64∧∀ (y:Int × List Int × List (List Int)),List.Mem
 y (shiftTo l (Int.tmod a (100000:Int)+(x:Int)) x_2)→IntKind.min .i64≤y.1∧y.1≤IntKind.max .i64∧List.length y.2.1=8∧(∀ (y_1:Int),List.Mem y_1 y.2.1→IntKind.min .i64≤y_1∧y_1≤IntKind.max .i64)∧List.length y.2.2=8∧∀ (y_1:List Int),List.Mem
 y_1 y.2.2→List.length y_1=4∧∀ (y:Int),List.Mem y y_1→IntKind.min .i64≤y∧y≤IntKind.max .i64)→bif decide ((x_2:Int)<(n:Int)) then ∃ (x_3:Nat),((0=0∧n=n∧Int.tmod a (100000:Int)=Int.tmod a (100000:Int)∧0=0∧IntKind.wrap .i64 (Int.tmod a
 (100000:Int)+Int.tmod (IntKind.wrap .i64 c) (4:Int))=IntKind.wrap .i64 (Int.tmod a (100000:Int)+Int.tmod (IntKind.wrap .i64 c) (4:Int))∧0=0∧List.length (srchL k l (Int.tmod a (100000:Int)) (srchN (Int.tmod a (100000:Int)) (IntKind.wrap
 .i64 (Int.tmod a (100000:Int)+Int.tmod (IntKind.wrap .i64 c) (4:Int)))))=List.length (srchL k l (Int.tmod a (100000:Int)) (srchN (Int.tmod a (100000:Int)) (IntKind.wrap .i64 (Int.tmod a (100000:Int)+Int.tmod (IntKind.wrap .i64 c) (4:Int)))))∧(↑
 (List.length (srchL k l (Int.tmod a (100000:Int)) x)):Int)=(↑ (List.length (srchL k l (Int.tmod a (100000:Int)) x)):Int)∧Int.tmod a (100000:Int)+(x:Int)=Int.tmod a (100000:Int)+(x:Int)∧0=0∧List.length (shiftTo l (Int.tmod a (100000:Int)+(x:Int))
 x_2)=List.length (shiftTo l (Int.tmod a (100000:Int)+(x:Int)) x_2)∧(x_2:Int)=(x_2:Int)∧true=!hasF (List.take x_3 l) (List.getD l (x_2:Int).toNat zeroK).1∧0=(x_3:Int)∧l=l∧true=true∧k=k∧false=false∧srchL k l (Int.tmod a (100000:Int))
 (srchN (Int.tmod a (100000:Int)) (IntKind.wrap .i64 (Int.tmod a (100000:Int)+Int.tmod (IntKind.wrap .i64 c) (4:Int))))=srchL k l (Int.tmod a (100000:Int)) (srchN (Int.tmod a (100000:Int)) (IntKind.wrap .i64 (Int.tmod a (100000:Int)+Int.tmod
 (IntKind.wrap .i64 c) (4:Int))))∧false=false∧shiftTo l (Int.tmod a (100000:Int)+(x:Int)) x_2=shiftTo l (Int.tmod a (100000:Int)+(x:Int)) x_2∧false=false)∧(x_3:Int)≤(x_2:Int))∧∀ (x_4:Nat),(x_4:Int)≤(x_2:Int)→IntKind.min .i64≤(x_4:Int)∧(x_4:Int)≤IntKind.max
 .i64→bif decide ((x_4:Int)<(x_2:Int)) then ∀ (b:Bool),(!hasF (List.take x_4 l) (List.getD l (x_2:Int).toNat zeroK).1)=b→((b=true→b=true∧b=true∧0≤(x_4:Int)∧(x_4:Int)<(n:Int))∧(b=true→b=true)∧(b=true→b=true∧0+(x_4:Int).toNat<List.length
 l)∧(b=true→b=true∧b=true∧0≤(x_2:Int)∧(x_2:Int)<(n:Int))∧(b=true→b=true)∧(b=true→b=true∧0+(x_2:Int).toNat<List.length l)∧(b=true→b=true∧b=true)∧(b=true→b=true))∧∃ (y:Nat),(0=0∧n=n∧Int.tmod a (100000:Int)=Int.tmod a (100000:Int)∧0=0∧IntKind.wrap
 .i64 (Int.tmod a (100000:Int)+Int.tmod (IntKind.wrap .i64 c) (4:Int))=IntKind.wrap .i64 (Int.tmod a (100000:Int)+Int.tmod (IntKind.wrap .i64 c) (4:Int))∧0=0∧List.length (srchL k l (Int.tmod a (100000:Int)) (srchN (Int.tmod a (100000:Int))
 (IntKind.wrap .i64 (Int.tmod a (100000:Int)+Int.tmod (IntKind.wrap .i64 c) (4:Int)))))=List.length (srchL k l (Int.tmod a (100000:Int)) (srchN (Int.tmod a (100000:Int)) (IntKind.wrap .i64 (Int.tmod a (100000:Int)+Int.tmod (IntKind.wrap
 .i64 c) (4:Int)))))∧(↑ (List.length (srchL k l (Int.tmod a (100000:Int)) x)):Int)=(↑ (List.length (srchL k l (Int.tmod a (100000:Int)) x)):Int)∧Int.tmod a (100000:Int)+(x:Int)=Int.tmod a (100000:Int)+(x:Int)∧0=0∧List.length (shiftTo
 l (Int.tmod a (100000:Int)+(x:Int)) x_2)=List.length (shiftTo l (Int.tmod a (100000:Int)+(x:Int)) x_2)∧(x_2:Int)=(x_2:Int)∧(bif b then !decide ((List.getD l (0+(x_4:Int).toNat) ((0:Int),List.replicate 8 (0:Int),List.replicate 8 (List.replicate
 4 (0:Int)))).1=(List.getD l (0+(x_2:Int).toNat) ((0:Int),List.replicate 8 (0:Int),List.replicate 8 (List.replicate 4 (0:Int)))).1) else false)=!hasF (List.take y l) (List.getD l (x_2:Int).toNat zeroK).1∧IntKind.wrap .i64 ((x_4:Int)+1)=(y:Int)∧l=l∧true=true∧k=k∧false=false∧srchL
 k l (Int.tmod a (100000:Int)) (srchN (Int.tmod a (100000:Int)) (IntKind.wrap .i64 (Int.tmod a (100000:Int)+Int.tmod (IntKind.wrap .i64 c) (4:Int))))=srchL k l (Int.tmod a (100000:Int)) (srchN (Int.tmod a (100000:Int)) (IntKind.wrap
 .i64 (Int.tmod a (100000:Int)+Int.tmod (IntKind.wrap .i64 c) (4:Int))))∧false=false∧shiftTo l (Int.tmod a (100000:Int)+(x:Int)) x_2=shiftTo l (Int.tmod a (100000:Int)+(x:Int)) x_2∧false=false)∧(y:Int)≤(x_2:Int)∧(x_2:Int).toNat - y<(x_2:Int).toNat
 - x_4 else bif !hasF (List.take x_4 l) (List.getD l (x_2:Int).toNat zeroK).1 then ((0≤(x_2:Int)∧(x_2:Int)<(n:Int))∧0+(x_2:Int).toNat<List.length l)∧((0≤(x_2:Int)∧(x_2:Int)<(n:Int))∧0+(x_2:Int).toNat<List.length l)∧((1:Nat)≤1∧0+List.length
 (shiftTo l (Int.tmod a (100000:Int)+(x:Int)) x_2)=List.length (shiftTo l (Int.tmod a (100000:Int)+(x:Int)) x_2)∧(List.length (shiftTo l (Int.tmod a (100000:Int)+(x:Int)) x_2)+List.length (seg ((IntKind.wrap .i64 (IntKind.wrap .i64 ((List.getD
 l (0+(x_2:Int).toNat) ((0:Int),List.replicate 8 (0:Int),List.replicate 8 (List.replicate 4 (0:Int)))).1 % 1016+(Int.tmod a (100000:Int)+(x:Int)) % 1016)+IntKind.wrap .i64 ((3048:Int) * (x_2:Int))),(List.getD l (0+(x_2:Int).toNat) ((0:Int),List.replicate
 8 (0:Int),List.replicate 8 (List.replicate 4 (0:Int)))).2) :: List.replicate (nat_lit 0) ((0:Int),List.replicate 8 (0:Int),List.replicate 8 (List.replicate 4 (0:Int)))) (0:Nat) (1:Nat))) * 328≤70368744177664)∧∃ (y:Nat),(0=0∧n=n∧Int.tmod
 a (100000:Int)=Int.tmod a (100000:Int)∧0=0∧IntKind.wrap .i64 (Int.tmod a (100000:Int)+Int.tmod (IntKind.wrap .i64 c) (4:Int))=IntKind.wrap .i64 (Int.tmod a (100000:Int)+Int.tmod (IntKind.wrap .i64 c) (4:Int))∧0=0∧List.length (srchL
 k l (Int.tmod a (100000:Int)) (srchN (Int.tmod a (100000:Int)) (IntKind.wrap .i64 (Int.tmod a (100000:Int)+Int.tmod (IntKind.wrap .i64 c) (4:Int)))))=List.length (srchL k l (Int.tmod a (100000:Int)) (srchN (Int.tmod a (100000:Int))
 (IntKind.wrap .i64 (Int.tmod a (100000:Int)+Int.tmod (IntKind.wrap .i64 c) (4:Int)))))∧(↑ (List.length (srchL k l (Int.tmod a (100000:Int)) x)):Int)=(↑ (List.length (srchL k l (Int.tmod a (100000:Int)) x)):Int)∧Int.tmod a (100000:Int)+(x:Int)=Int.tmod
 a (100000:Int)+(x:Int)∧0=0∧List.length (shiftTo l (Int.tmod a (100000:Int)+(x:Int)) x_2)+List.length (seg ((IntKind.wrap .i64 (IntKind.wrap .i64 ((List.getD l (0+(x_2:Int).toNat) ((0:Int),List.replicate 8 (0:Int),List.replicate 8 (List.replicate
 4 (0:Int)))).1 % 1016+(Int.tmod a (100000:Int)+(x:Int)) % 1016)+IntKind.wrap .i64 ((3048:Int) * (x_2:Int))),(List.getD l (0+(x_2:Int).toNat) ((0:Int),List.replicate 8 (0:Int),List.replicate 8 (List.replicate 4 (0:Int)))).2) :: List.replicate
 (nat_lit 0) ((0:Int),List.replicate 8 (0:Int),List.replicate 8 (List.replicate 4 (0:Int)))) (0:Nat) (1:Nat))=List.length (shiftTo l (Int.tmod a (100000:Int)+(x:Int)) y)∧IntKind.wrap .i64 ((x_2:Int)+1)=(y:Int)∧l=l∧true=true∧k=k∧false=false∧srchL
 k l (Int.tmod a (100000:Int)) (srchN (Int.tmod a (100000:Int)) (IntKind.wrap .i64 (Int.tmod a (100000:Int)+Int.tmod (IntKind.wrap .i64 c) (4:Int))))=srchL k l (Int.tmod a (100000:Int)) (srchN (Int.tmod a (100000:Int)) (IntKind.wrap
 .i64 (Int.tmod a (100000:Int)+Int.tmod (IntKind.wrap .i64 c) (4:Int))))∧false=false∧List.append (List.drop (0:Nat) (shiftTo l (Int.tmod a (100000:Int)+(x:Int)) x_2)) (seg ((IntKind.wrap .i64 (IntKind.wrap .i64 ((List.getD l (0+(x_2:Int).toNat)
 ((0:Int),List.replicate 8 (0:Int),List.replicate 8 (List.replicate 4 (0:Int)))).1 % 1016+(Int.tmod a (100000:Int)+(x:Int)) % 1016)+IntKind.wrap .i64 ((3048:Int) * (x_2:Int))),(List.getD l (0+(x_2:Int).toNat) ((0:Int),List.replicate
 8 (0:Int),List.replicate 8 (List.replicate 4 (0:Int)))).2) :: List.replicate (nat_lit 0) ((0:Int),List.replicate 8 (0:Int),List.replicate 8 (List.replicate 4 (0:Int)))) (0:Nat) (1:Nat))=shiftTo l (Int.tmod a (100000:Int)+(x:Int)) y∧false=false)∧y≤List.length
 l∧List.length l - y<List.length l - x_2 else ∃ (y:Nat),(0=0∧n=n∧Int.tmod a (100000:Int)=Int.tmod a (100000:Int)∧0=0∧IntKind.wrap .i64 (Int.tmod a (100000:Int)+Int.tmod (IntKind.wrap .i64 c) (4:Int))=IntKind.wrap .i64 (Int.tmod a (100000:Int)+Int.tmod
 (IntKind.wrap .i64 c) (4:Int))∧0=0∧List.length (srchL k l (Int.tmod a (100000:Int)) (srchN (Int.tmod a (100000:Int)) (IntKind.wrap .i64 (Int.tmod a (100000:Int)+Int.tmod (IntKind.wrap .i64 c) (4:Int)))))=List.length (srchL k l (Int.tmod
 a (100000:Int)) (srchN (Int.tmod a (100000:Int)) (IntKind.wrap .i64 (Int.tmod a (100000:Int)+Int.tmod (IntKind.wrap .i64 c) (4:Int)))))∧(↑ (List.length (srchL k l (Int.tmod a (100000:Int)) x)):Int)=(↑ (List.length (srchL k l (Int.tmod
 a (100000:Int)) x)):Int)∧Int.tmod a (100000:Int)+(x:Int)=Int.tmod a (100000:Int)+(x:Int)∧0=0∧List.length (shiftTo l (Int.tmod a (100000:Int)+(x:Int)) x_2)=List.length (shiftTo l (Int.tmod a (100000:Int)+(x:Int)) y)∧IntKind.wrap .i64
 ((x_2:Int)+1)=(y:Int)∧l=l∧true=true∧k=k∧false=false∧srchL k l (Int.tmod a (100000:Int)) (srchN (Int.tmod a (100000:Int)) (IntKind.wrap .i64 (Int.tmod a (100000:Int)+Int.tmod (IntKind.wrap .i64 c) (4:Int))))=srchL k l (Int.tmod a (100000:Int))
 (srchN (Int.tmod a (100000:Int)) (IntKind.wrap .i64 (Int.tmod a (100000:Int)+Int.tmod (IntKind.wrap .i64 c) (4:Int))))∧false=false∧shiftTo l (Int.tmod a (100000:Int)+(x:Int)) x_2=shiftTo l (Int.tmod a (100000:Int)+(x:Int)) y∧false=false)∧y≤List.length
 l∧List.length l - y<List.length l - x_2 else (List.length (shiftTo l (Int.tmod a (100000:Int)+(x:Int)) x_2)=List.length (shiftTo l (Int.tmod a (100000:Int)+(x:Int)) x_2)∧List.length (shiftTo l (Int.tmod a (100000:Int)+(x:Int)) x_2)≤1000000)∧bif
 !decide (payE k (shiftTo l (Int.tmod a (100000:Int)+(x:Int)) x_2)=0) then ∃ (y:Nat),(0=0∧n=n∧Int.tmod a (100000:Int)=Int.tmod a (100000:Int)∧0=0∧IntKind.wrap .i64 (Int.tmod a (100000:Int)+Int.tmod (IntKind.wrap .i64 c) (4:Int))=IntKind.wrap
 .i64 (Int.tmod a (100000:Int)+Int.tmod (IntKind.wrap .i64 c) (4:Int))∧0=0∧List.length (srchL k l (Int.tmod a (100000:Int)) (srchN (Int.tmod a (100000:Int)) (IntKind.wrap .i64 (Int.tmod a (100000:Int)+Int.tmod (IntKind.wrap .i64 c) (4:Int)))))=List.length
 (srchL k l (Int.tmod a (100000:Int)) (srchN (Int.tmod a (100000:Int)) (IntKind.wrap .i64 (Int.tmod a (100000:Int)+Int.tmod (IntKind.wrap .i64 c) (4:Int)))))∧(↑ (List.length (srchL k l (Int.tmod a (100000:Int)) x)):Int)=(↑ (List.length
 (srchL k l (Int.tmod a (100000:Int)) y)):Int)∧IntKind.wrap .i64 (Int.tmod a (100000:Int)+(x:Int)+1)=Int.tmod a (100000:Int)+(y:Int)∧l=l∧true=true∧k=k∧false=false∧srchL k l (Int.tmod a (100000:Int)) (srchN (Int.tmod a (100000:Int)) (IntKind.wrap
 .i64 (Int.tmod a (100000:Int)+Int.tmod (IntKind.wrap .i64 c) (4:Int))))=srchL k l (Int.tmod a (100000:Int)) (srchN (Int.tmod a (100000:Int)) (IntKind.wrap .i64 (Int.tmod a (100000:Int)+Int.tmod (IntKind.wrap .i64 c) (4:Int))))∧false=false)∧(y:Int)≤IntKind.wrap
 .i64 (Int.tmod a (100000:Int)+Int.tmod (IntKind.wrap .i64 c) (4:Int)) - Int.tmod a (100000:Int)+1∧(IntKind.wrap .i64 (Int.tmod a (100000:Int)+Int.tmod (IntKind.wrap .i64 c) (4:Int)) - Int.tmod a (100000:Int)+1).toNat - y<(IntKind.wrap
 .i64 (Int.tmod a (100000:Int)+Int.tmod (IntKind.wrap .i64 c) (4:Int)) - Int.tmod a (100000:Int)+1).toNat - x else ∀ (b:Bool),decide ((↑ (List.length (srchL k l (Int.tmod a (100000:Int)) (srchN (Int.tmod a (100000:Int)) (IntKind.wrap
 .i64 (Int.tmod a (100000:Int)+Int.tmod (IntKind.wrap .i64 c) (4:Int)))))):Int)≤(↑ (List.length (srchL k l (Int.tmod a (100000:Int)) x)):Int))=b→∀ (b_1:Bool),(bif b then true else !decide ((List.getD (srchL k l (Int.tmod a (100000:Int))
 (srchN (Int.tmod a (100000:Int)) (IntKind.wrap .i64 (Int.tmod a (100000:Int)+Int.tmod (IntKind.wrap .i64 c) (4:Int))))) (0+(↑ (List.length (srchL k l (Int.tmod a (100000:Int)) x)):Int).toNat) ((0:Int),(0:Int))).1=Int.tmod a (100000:Int)+(x:Int)))=b_1→(((!b)=true→(!b)=true∧(!b)=true∧0≤(↑
 (List.length (srchL k l (Int.tmod a (100000:Int)) x)):Int)∧(↑ (List.length (srchL k l (Int.tmod a (100000:Int)) x)):Int)<(↑ (List.length (srchL k l (Int.tmod a (100000:Int)) (srchN (Int.tmod a (100000:Int)) (IntKind.wrap .i64 (Int.tmod
 a (100000:Int)+Int.tmod (IntKind.wrap .i64 c) (4:Int)))))):Int))∧((!b)=true→(!b)=true)∧((!b)=true→(!b)=true∧0+(↑ (List.length (srchL k l (Int.tmod a (100000:Int)) x)):Int).toNat<List.length (srchL k l (Int.tmod a (100000:Int)) (srchN
 (Int.tmod a (100000:Int)) (IntKind.wrap .i64 (Int.tmod a (100000:Int)+Int.tmod (IntKind.wrap .i64 c) (4:Int))))))∧((!b)=true→(!b)=true∧(!b)=true)∧(b=false→(!b)=true)∧((!b_1)=true→(!b_1)=true∧(!b_1)=true∧0≤(↑ (List.length (srchL k l
 (Int.tmod a (100000:Int)) x)):Int)∧(↑ (List.length (srchL k l (Int.tmod a (100000:Int)) x)):Int)<(↑ (List.length (srchL k l (Int.tmod a (100000:Int)) (srchN (Int.tmod a (100000:Int)) (IntKind.wrap .i64 (Int.tmod a (100000:Int)+Int.tmod
 (IntKind.wrap .i64 c) (4:Int)))))):Int))∧((!b_1)=true→(!b_1)=true)∧((!b_1)=true→(!b_1)=true∧0+(↑ (List.length (srchL k l (Int.tmod a (100000:Int)) x)):Int).toNat<List.length (srchL k l (Int.tmod a (100000:Int)) (srchN (Int.tmod a (100000:Int))
 (IntKind.wrap .i64 (Int.tmod a (100000:Int)+Int.tmod (IntKind.wrap .i64 c) (4:Int))))))∧((!b_1)=true→(!b_1)=true∧(!b_1)=true)∧(b_1=false→(!b_1)=true))∧bif bif b_1 then true else !decide ((List.getD (srchL k l (Int.tmod a (100000:Int))
 (srchN (Int.tmod a (100000:Int)) (IntKind.wrap .i64 (Int.tmod a (100000:Int)+Int.tmod (IntKind.wrap .i64 c) (4:Int))))) (0+(↑ (List.length (srchL k l (Int.tmod a (100000:Int)) x)):Int).toNat) ((0:Int),(0:Int))).2=payI k (shiftTo l (Int.tmod
 a (100000:Int)+(x:Int)) x_2)) then false=true∧l=l∧true=true else ∃ (y:Nat),(0=0∧n=n∧Int.tmod a (100000:Int)=Int.tmod a (100000:Int)∧0=0∧IntKind.wrap .i64 (Int.tmod a (100000:Int)+Int.tmod (IntKind.wrap .i64 c) (4:Int))=IntKind.wrap
 .i64 (Int.tmod a (100000:Int)+Int.tmod (IntKind.wrap .i64 c) (4:Int))∧0=0∧List.length (srchL k l (Int.tmod a (100000:Int)) (srchN (Int.tmod a (100000:Int)) (IntKind.wrap .i64 (Int.tmod a (100000:Int)+Int.tmod (IntKind.wrap .i64 c) (4:Int)))))=List.length
 (srchL k l (Int.tmod a (100000:Int)) (srchN (Int.tmod a (100000:Int)) (IntKind.wrap .i64 (Int.tmod a (100000:Int)+Int.tmod (IntKind.wrap .i64 c) (4:Int)))))∧IntKind.wrap .i64 ((↑ (List.length (srchL k l (Int.tmod a (100000:Int)) x)):Int)+1)=(↑
 (List.length (srchL k l (Int.tmod a (100000:Int)) y)):Int)∧IntKind.wrap .i64 (Int.tmod a (100000:Int)+(x:Int)+1)=Int.tmod a (100000:Int)+(y:Int)∧l=l∧true=true∧k=k∧false=false∧srchL k l (Int.tmod a (100000:Int)) (srchN (Int.tmod a (100000:Int))
 (IntKind.wrap .i64 (Int.tmod a (100000:Int)+Int.tmod (IntKind.wrap .i64 c) (4:Int))))=srchL k l (Int.tmod a (100000:Int)) (srchN (Int.tmod a (100000:Int)) (IntKind.wrap .i64 (Int.tmod a (100000:Int)+Int.tmod (IntKind.wrap .i64 c) (4:Int))))∧false=false)∧(y:Int)≤IntKind.wrap
 .i64 (Int.tmod a (100000:Int)+Int.tmod (IntKind.wrap .i64 c) (4:Int)) - Int.tmod a (100000:Int)+1∧(IntKind.wrap .i64 (Int.tmod a (100000:Int)+Int.tmod (IntKind.wrap .i64 c) (4:Int)) - Int.tmod a (100000:Int)+1).toNat - y<(IntKind.wrap
 .i64 (Int.tmod a (100000:Int)+Int.tmod (IntKind.wrap .i64 c) (4:Int)) - Int.tmod a (100000:Int)+1).toNat - x else bif decide ((↑ (List.length (srchL k l (Int.tmod a (100000:Int)) x)):Int)=(↑ (List.length (srchL k l (Int.tmod a (100000:Int))
 (srchN (Int.tmod a (100000:Int)) (IntKind.wrap .i64 (Int.tmod a (100000:Int)+Int.tmod (IntKind.wrap .i64 c) (4:Int)))))):Int)) then ((n=List.length l∧n≤1000000)∧((-1000000:Int)≤1∧(1:Int)≤1000000)∧(-1000000:Int)≤0∧(0:Int)≤1000000)∧decide
 ((↑ (List.length (srchL k l (1:Int) (0:Nat))):Int)=0)=true∧l=l∧true=true else (false=true→false=true)∧false=true∧l=l∧true=true
theorem vcv8 (k : List Int) (l : List (Int × List Int × List (List Int))) (a c : Int) (n : Nat) : Pv8 k l a c n = vcFun Cv8 (annv8 k l a c n) Go.Proofs.Tryd.f8 [⟨.arr 16 (.int .u8), k⟩, ⟨.ref .slice, .slice 0 (.cons (.int .i64) (.last (.cons (.arr 8 (.int .i64)) (.last (.arr 8 (.arr 4 (.int .i64))))))) [] 0 n⟩, ⟨.int .i64, a⟩, ⟨.int .u8, c⟩] [⟨true, false, (.cons (.int .i64) (.last (.cons (.arr 8 (.int .i64)) (.last (.arr 8 (.arr 4 (.int .i64))))))), l⟩] (outv8 k l a c n) := by kernel_rfl

end Go.SL.A

/- Shifts that are searched: the code as a plain condition holds. -/
namespace Go.SL.A
open Go Go.SL Go.SL.S
set_option maxRecDepth 100000

theorem hwv8 {k : List Int} {l : List (Int × List Int × List (List Int))} {a c : Int} {n : Nat} (hw : Go.SL.allP (List.flatMap (fun a : AV => a.t.wf a.x) [⟨.arr 16 (.int .u8), k⟩, ⟨.ref .slice, .slice 0 (.cons (.int .i64) (.last (.cons (.arr 8 (.int .i64)) (.last (.arr 8 (.arr 4 (.int .i64))))))) [] 0 n⟩, ⟨.int .i64, a⟩, ⟨.int .u8, c⟩] ++ List.flatMap Blk.wf [⟨true, false, (.cons (.int .i64) (.last (.cons (.arr 8 (.int .i64)) (.last (.arr 8 (.arr 4 (.int .i64))))))), l⟩])) : 0 ≤ c ∧ c ≤ 255 := by
  simp only [List.flatMap_cons, List.flatMap_nil, Ty.wf, Blk.wf, List.append_nil, List.cons_append, List.nil_append, Go.SL.allP] at hw
  have e3 : IntKind.u8.min = 0 := by decide
  have e4 : IntKind.u8.max = 255 := by decide
  have h := hw.2.2.2.2
  rw [e3, e4] at h
  exact ⟨h.1, h.2.1⟩
theorem has_take8 {l : List PKQ} {j : Nat} (h : j < l.length) (f : Int) : hasF (l.take (j + 1)) f = (hasF (l.take j) f || decide ((l.getD j zeroK).1 = f)) := by
  rw [take_get h]; unfold hasF; rw [List.any_append]; simp
theorem srch_pre (k : List Int) (l : List PKQ) (a : Int) (i : Nat) : ∀ j, ∃ t, srchL k l a (i + j) = srchL k l a i ++ t
  | 0 => ⟨[], (List.append_nil _).symm⟩
  | j + 1 => by
    obtain ⟨t, h⟩ := srch_pre k l a i j
    rw [show i + (j + 1) = (i + j) + 1 by omega, srchL, h, List.append_assoc]
    exact ⟨_, rfl⟩
theorem srch_at {k : List Int} {l : List PKQ} {a : Int} {i N : Nat} (h : i < N) (he : takeE k (votesF k l (a + (i : Int))) = 0) :
    (srchL k l a i).length < (srchL k l a N).length ∧ (srchL k l a N).getD (srchL k l a i).length (0, 0) = (a + (i : Int), takeI k (votesF k l (a + (i : Int)))) ∧ srchL k l a (i + 1) = srchL k l a i ++ [(a + (i : Int), takeI k (votesF k l (a + (i : Int))))] := by
  have e : srchL k l a (i + 1) = srchL k l a i ++ [(a + (i : Int), takeI k (votesF k l (a + (i : Int))))] := by rw [srchL, if_pos he]
  obtain ⟨t, ht⟩ := srch_pre k l a (i + 1) (N - (i + 1))
  rw [show i + 1 + (N - (i + 1)) = N by omega, e] at ht
  rw [ht]
  refine ⟨by simp only [List.length_append, List.length_cons]; omega, ?_, e⟩
  rw [List.getD_eq_getElem?_getD, List.append_assoc, List.getElem?_append_right (Nat.le_refl _), Nat.sub_self]; rfl
theorem shift_len (l : List PKQ) (s : Int) : ∀ i, (shiftTo l s i).length ≤ i
  | 0 => Nat.le_refl _
  | i + 1 => by
    have := shift_len l s i
    rw [shiftTo]
    split
    · omega
    · rw [List.length_append, List.length_singleton]; omega
theorem shift_num {f s : Int} {j : Nat} (hj : j ≤ 1000) : IntKind.i64.wrap (IntKind.i64.wrap (f % 1016 + s % 1016) + IntKind.i64.wrap (3048 * (j : Int))) = f % 1016 + s % 1016 + 3048 * (j : Int) := by
  rw [w64 (n := f % 1016 + s % 1016) (by omega) (by omega), w64 (n := 3048 * (j : Int)) (by omega) (by omega), w64 (by omega) (by omega)]
theorem purev8 (k : List Int) (l : List (Int × List Int × List (List Int))) (a c : Int) (n : Nat) (hp : n = l.length) (hc : 0 ≤ c ∧ c ≤ 255) : Pv8 k l a c n := by
  subst hp
  unfold Pv8
  have ec : IntKind.i64.wrap c = c := w64 (by omega) (by omega)
  have ed : Int.tmod c 4 = c % 4 := Int.tmod_eq_emod_of_nonneg hc.1
  have ta := tdm a (k := 100000) (by decide)
  have ha : -100000 < a.tmod 100000 ∧ a.tmod 100000 < 100000 := ⟨ta.2.1, ta.2.2.1⟩
  clear ta
  obtain ⟨d, hd, hd4⟩ : ∃ d : Nat, c % 4 = (d : Int) ∧ d < 4 := ⟨(c % 4).toNat, by omega, by omega⟩
  simp only [ec, ed, hd]
  generalize Int.tmod a 100000 = s0 at *
  have eb : IntKind.i64.wrap (s0 + (d : Int)) = s0 + (d : Int) := w64 (by omega) (by omega)
  have hN : srchN s0 (s0 + (d : Int)) = d + 1 := by unfold srchN; rw [if_pos (by omega)]; omega
  have ez : ∀ (m : List PKQ) (j : Nat), List.getD m j (0, List.replicate 8 0, List.replicate 8 (List.replicate 4 0)) = m.getD j zeroK := fun _ _ => rfl
  simp only [eb, hN, ez]
  rintro b rfl
  refine ⟨by simp, ?_⟩
  rw [cond_false]
  by_cases c1 : (200 : Int) < (l.length : Int)
  · rw [decide_eq_true c1, cond_true]; trivial
  rw [decide_eq_false c1, cond_false]
  simp only [eq_self, true_and, and_true, Int.toNat_natCast, Nat.zero_add]
  refine ⟨by decide, by decide, ⟨by omega, ⟨by omega, by omega⟩, by omega, by omega⟩, 0, ⟨⟨rfl, by omega⟩, by omega⟩, fun i hi hw => ?_⟩
  clear hw
  by_cases h : i ≤ d
  · rw [decide_eq_true (show s0 + (i : Int) ≤ s0 + (d : Int) by omega), cond_true]
    refine ⟨0, ⟨⟨rfl, rfl, rfl⟩, Nat.zero_le _⟩, fun j hj hw => ?_⟩
    clear hw
    by_cases h2 : j < l.length
    · rw [decide_eq_true (show (j : Int) < (l.length : Int) by omega), cond_true]
      refine ⟨0, ⟨⟨rfl, rfl⟩, by omega⟩, fun q hq hw => ?_⟩
      clear hw
      have hjl : (0 : Int) ≤ (j : Int) ∧ (j : Int) < (l.length : Int) := by omega
      by_cases h3 : q < j
      · rw [decide_eq_true (show (q : Int) < (j : Int) by omega), cond_true]
        have hql : (0 : Int) ≤ (q : Int) ∧ (q : Int) < (l.length : Int) := by omega
        have hq2 : q < l.length := by omega
        rintro b rfl
        refine ⟨by simp [hjl, hql, h2, hq2], q + 1, ⟨?_, step_i (by omega)⟩, by omega, by omega⟩
        rw [has_take8 hq2, Bool.not_or]
        cases hasF (l.take q) (l.getD j zeroK).1 <;> rfl
      · have eq : q = j := by omega
        rw [decide_eq_false (by omega), cond_false, eq]
        have es : shiftTo l (s0 + (i : Int)) (j + 1) = if hasF (l.take j) (l.getD j zeroK).1 then shiftTo l (s0 + (i : Int)) j else shiftTo l (s0 + (i : Int)) j ++ [((l.getD j zeroK).1 % 1016 + (s0 + (i : Int)) % 1016 + 3048 * (j : Int), (l.getD j zeroK).2)] := shiftTo.eq_2 _ _ _
        have hsl := shift_len l (s0 + (i : Int)) j
        cases hh : hasF (l.take j) (l.getD j zeroK).1 with
        | true =>
          rw [hh, if_pos rfl] at es
          rw [Bool.not_true, cond_false]
          exact ⟨j + 1, ⟨by rw [es], step_i (by omega), by rw [es]⟩, by omega, by omega⟩
        | false =>
          rw [hh, if_neg (by decide)] at es
          rw [Bool.not_false, cond_true, shift_num (by omega)]
          refine ⟨⟨hjl, h2⟩, ⟨hjl, h2⟩, ⟨by decide, ?_⟩, j + 1, ⟨?_, step_i (by omega), ?_⟩, by omega, by omega⟩
          · show (_ + 1) * 328 ≤ _; omega
          · rw [es, List.length_append]; rfl
          · rw [es]; rfl
    · have ej : j = l.length := by omega
      have hsl := shift_len l (s0 + (i : Int)) l.length
      rw [decide_eq_false (by omega), cond_false, ej]
      refine ⟨by omega, ?_⟩
      have e1 : payE k (shiftTo l (s0 + (i : Int)) l.length) = takeE k (votesF k l (s0 + (i : Int))) := by unfold payE; rw [votes_shift]
      have e2 : payI k (shiftTo l (s0 + (i : Int)) l.length) = takeI k (votesF k l (s0 + (i : Int))) := by unfold payI; rw [votes_shift]
      rw [e1, e2]
      by_cases he : takeE k (votesF k l (s0 + (i : Int))) = 0
      · rw [decide_eq_true he, Bool.not_true, cond_false]
        obtain ⟨g1, g2, g3⟩ := srch_at (N := d + 1) (show i < d + 1 by omega) he
        have gl := srch_len k l s0 i
        rw [g2]
        rw [decide_eq_false (by omega)]
        rintro b rfl b1 rfl
        rw [cond_false, decide_eq_true (show s0 + (i : Int) = s0 + (i : Int) from rfl), Bool.not_true, cond_false, decide_eq_true (show takeI k (votesF k l (s0 + (i : Int))) = _ from rfl), Bool.not_true, cond_false]
        have g4 : ((srchL k l s0 i).length : Int) < ((srchL k l s0 (d + 1)).length : Int) := by omega
        have g5 : (0 : Int) ≤ ((srchL k l s0 i).length : Int) := by omega
        refine ⟨by simp [g1, g4], i + 1, ⟨?_, ?_⟩, by omega, by omega⟩
        · rw [g3, List.length_append, List.length_singleton, w64 (by omega) (by omega)]; omega
        · rw [w64 (by omega) (by omega)]; omega
      · rw [decide_eq_false he, Bool.not_false, cond_true]
        have g3 : srchL k l s0 (i + 1) = srchL k l s0 i := by rw [srchL, if_neg he, List.append_nil]
        refine ⟨i + 1, ⟨by rw [g3], ?_⟩, by omega, by omega⟩
        rw [w64 (by omega) (by omega)]; omega
  · have ei : i = d + 1 := by omega
    rw [decide_eq_false (by omega), cond_false, ei, decide_eq_true rfl, cond_true]
    refine ⟨⟨by omega, by omega⟩, rfl⟩
end Go.SL.A

/- Functions do what they are held to do. -/
namespace Go.SL.A
open Go Go.SL Go.SL.S
theorem sndv8 : Sound Go.Proofs.Tryd.prog Gv8 := sndv19.add ⟨_, Go.Proofs.Tryd.func8, by kernel_rfl, by kernel_rfl⟩ (by
  intro args ins out h hp
  unfold spv8 at h
  split at h
  · rename_i k n a c l
    cases h
    exact vcFun_ok (C := Cv8) good sndv19 Meth.none mix Go.Proofs.Tryd.func8 (annv8 k l a c n) (fun hw => by rw [← vcv8 k l a c n]; exact purev8 k l a c n hp (hwv8 hw))
  · cases h)

end Go.SL.A

/- Functions and what they are held to do: bound to their code. -/
namespace Go.SL.A
open Go Go.SL Go.SL.S
set_option maxRecDepth 100000
noncomputable def Cv5 : Ctx := ⟨Go.Proofs.Tryd.prog, D, Gv19, (fun _ _ => none), fun _ => []⟩
def annv5 (k : List Int) (_p : Int) (fr wr si : List Int) (_n1 _n2 _n3 : Nat) : Nat → St → Option Ann := fun id S => match id with | 0 => some ⟨Nat, [1, 2, 3, 4, 5, 11, 13, 14, 15, 16, 17], [0, 1, 2, 3, 4, 8], fun i => [(18, .v (.int .i64) (i : Int)), (12, .v (.ref .slice) (.slice 10 (.cons (.int .i64) (.last (.cons (.arr 8 (.int .i64)) (.last (.arr 8 (.arr 4 (.int .i64))))))) [] 0 i))], fun i => [(5, some ⟨false, true, .arr 127 (.int .i64), [spkA k wr si fr true i]⟩), (6, some ⟨false, true, .arr 127 (.int .i64), [spkA k wr si fr false i]⟩), (7, some ⟨false, true, .arr 127 .bool, [cameA k fr i]⟩), (9, some ⟨false, false, .bool, seenA fr i⟩), (10, some ⟨false, false, (.cons (.int .i64) (.last (.cons (.arr 8 (.int .i64)) (.last (.arr 8 (.arr 4 (.int .i64))))))), pkL k (S.x 4 (.arr 127 .bool)) wr si fr i⟩)], fun i => i ≤ fr.length, fun i => fr.length - i⟩ | 2 => some ⟨Nat, [1, 2, 3, 4, 5, 11, 12, 13, 14, 15, 16, 17, 18, 19, 20, 21, 22], [0, 1, 2, 3, 4, 5, 6, 7, 8, 9, 10], fun j => [(24, .v (.int .i64) (j : Int)), (23, .v .bool (!hitN (wr.take j) (S.i 18).toNat))], fun j => [(11, some ⟨false, true, (.cons (.arr 8 (.int .i64)) (.last (.arr 8 (.arr 4 (.int .i64))))), [loudS k (S.i 19) (if hitN (wr.take j) (S.i 18).toNat then !(S.val 21 .bool) else S.val 21 .bool)]⟩)], fun j => j ≤ wr.length, fun j => wr.length - j⟩ | 4 => some ⟨Nat, [1, 2, 3, 4, 5, 11, 12, 13, 14, 15, 16, 17, 18, 19, 20, 21, 22], [0, 1, 2, 3, 4, 5, 6, 7, 8, 9, 10], fun j => [(25, .v (.int .i64) (j : Int)), (23, .v .bool (S.val 23 .bool && !hitN (si.take j) (S.i 18).toNat))], fun j => [(11, some ⟨false, true, (.cons (.arr 8 (.int .i64)) (.last (.arr 8 (.arr 4 (.int .i64))))), [if hitN (si.take j) (S.i 18).toNat then zeroSH else S.x 11 (.cons (.arr 8 (.int .i64)) (.last (.arr 8 (.arr 4 (.int .i64)))))]⟩)], fun j => j ≤ si.length, fun j => si.length - j⟩ | _ => some ⟨Nat, [1, 5, 12, 13, 14, 15, 16], [0, 1, 2, 3, 5, 6, 7, 10], fun i => [(27, .v (.int .i64) (i : Int)), (26, .v (.int .i64) (costA k wr si fr fr.length i))], fun i => [(8, some ⟨false, true, .arr 127 .bool, [((cameA k fr fr.length).take i).map (!·) ++ (List.replicate 127 false).drop i]⟩)], fun i => i ≤ 127, fun i => 127 - i⟩
def outv5 (_k : List Int) (_p : Int) (fr wr si : List Int) (n1 n2 n3 : Nat) : COut := ⟨[n1 = fr.length ∧ n2 = wr.length ∧ n3 = si.length], .v .bool true, [], []⟩
def spv5 : Spec := fun args ins => match args, ins with
  | [⟨.arr 16 (.int .u8), k⟩, ⟨.int .i64, p⟩, ⟨.ref .slice, .slice 0 (.int .u16) [] 0 n1⟩, ⟨.ref .slice, .slice 1 (.int .u16) [] 0 n2⟩, ⟨.ref .slice, .slice 2 (.int .u16) [] 0 n3⟩], [⟨true, false, .int .u16, fr⟩, ⟨true, false, .int .u16, wr⟩, ⟨true, false, .int .u16, si⟩] => some (outv5 k p fr wr si n1 n2 n3)
  | _, _ => none
def Gv5 := addG Gv19 5 spv5
def Pv5 (k : List Int) (p : Int) (fr wr si : List Int) (n1 n2 n3 : Nat) : Prop :=
 ∀ (b:Bool),false=b→∀ (b_1:Bool),(bif b then true else decide (200<(n1:Int)))=b_1→∀ (b_2:Bool),(bif b_1 then true else decide (200<(n2:Int)))=b_2→(((!b)=true→(!b)=true)∧((!b)=true→(!b)=true)∧(b=false→(!b)=true)∧((!b_1)=true→(!b_1)=true)∧((!b_1)=true→(!b_1)=true)∧(b_1=false→(!b_1)=true)∧((!b_2)=true→(!b_2)=true)∧((!b_2)=true→(!b_2)=true)∧(b_2=false→(!b_2)=true))∧bif
 bif b_2 then true else decide (200<(n3:Int)) then true=true∧fr=fr∧true=true∧wr=wr∧true=true∧si=si∧true=true else mayL (iand .i64 p (281474976710655:Int))=true∧((0:Int)≤65536∧(65536:Int)=65536∧(65536:Int) * (↑ (1:Nat):Int)≤(↑ (70368744177664:Nat):Int)∧65536≤(↑
 (70368744177664:Nat):Int))∧∃ (x:Nat),((iand .i64 p (281474976710655:Int)=iand .i64 p (281474976710655:Int)∧0=0∧n1=n1∧0=0∧n2=n2∧0=0∧n3=n3∧0=0∧0=0∧x=0∧0=0∧0=0∧0=0∧0=0∧0=0∧65536=65536∧0=(x:Int)∧fr=fr∧true=true∧wr=wr∧true=true∧si=si∧true=true∧k=k∧false=false∧encF
 (numP k (iand .i64 p (281474976710655:Int)))=encF (numP k (iand .i64 p (281474976710655:Int)))∧false=false∧(0:Int) :: List.replicate (nat_lit 126) (0:Int)=spkA k wr si fr true x∧false=false∧(0:Int) :: List.replicate (nat_lit 126) (0:Int)=spkA
 k wr si fr false x∧false=false∧false :: List.replicate (nat_lit 126) false=cameA k fr x∧false=false∧false :: List.replicate (nat_lit 126) false=List.replicate 127 false∧false=false∧false :: List.replicate (nat_lit 65535) false=seenA
 fr x∧false=false∧pkL k (encF (numP k (iand .i64 p (281474976710655:Int)))) wr si fr x=[])∧x≤List.length fr)∧∀ (x:Nat),x≤List.length fr→(IntKind.min .i64≤(x:Int)∧(x:Int)≤IntKind.max .i64∧(∀ (y:List Int),List.Mem y [spkA k wr si fr true
 x]→List.length y=127∧∀ (y_1:Int),List.Mem y_1 y→IntKind.min .i64≤y_1∧y_1≤IntKind.max .i64)∧(∀ (y:List Int),List.Mem y [spkA k wr si fr false x]→List.length y=127∧∀ (y_1:Int),List.Mem y_1 y→IntKind.min .i64≤y_1∧y_1≤IntKind.max .i64)∧(∀
 (y:List Bool),List.Mem y [cameA k fr x]→List.length y=127∧∀ (y_1:Bool),List.Mem y_1 y→True)∧(∀ (y:Bool),List.Mem y (seenA fr x)→True)∧∀ (y:Int × List Int × List (List Int)),List.Mem y (pkL k (encF (numP k (iand .i64 p (281474976710655:Int))))
 wr si fr x)→IntKind.min .i64≤y.1∧y.1≤IntKind.max .i64∧List.length y.2.1=8∧(∀ (y_1:Int),List.Mem y_1 y.2.1→IntKind.min .i64≤y_1∧y_1≤IntKind.max .i64)∧List.length y.2.2=8∧∀ (y_1:List Int),List.Mem y_1 y.2.2→List.length y_1=4∧∀ (y:Int),List.Mem
 y y_1→IntKind.min .i64≤y∧y≤IntKind.max .i64)→bif decide ((x:Int)<(n1:Int)) then ((0≤(x:Int)∧(x:Int)<(n1:Int))∧0+(x:Int).toNat<List.length fr)∧((0≤placeK k (IntKind.wrap .i64 (List.getD fr (0+(x:Int).toNat) (0:Int)))∧placeK k (IntKind.wrap
 .i64 (List.getD fr (0+(x:Int).toNat) (0:Int)))<(↑ (127:Nat):Int))∧(placeK k (IntKind.wrap .i64 (List.getD fr (0+(x:Int).toNat) (0:Int)))).toNat<127)∧∃ (x_1:Nat),((iand .i64 p (281474976710655:Int)=iand .i64 p (281474976710655:Int)∧0=0∧n1=n1∧0=0∧n2=n2∧0=0∧n3=n3∧0=0∧0=0∧0=0∧x=x∧0=0∧0=0∧0=0∧0=0∧0=0∧65536=65536∧(x:Int)=(x:Int)∧IntKind.wrap
 .i64 (List.getD fr (0+(x:Int).toNat) (0:Int))=IntKind.wrap .i64 (List.getD fr (0+(x:Int).toNat) (0:Int))∧placeK k (IntKind.wrap .i64 (List.getD fr (0+(x:Int).toNat) (0:Int)))=placeK k (IntKind.wrap .i64 (List.getD fr (0+(x:Int).toNat)
 (0:Int)))∧List.getD (encF (numP k (iand .i64 p (281474976710655:Int)))) (placeK k (IntKind.wrap .i64 (List.getD fr (0+(x:Int).toNat) (0:Int)))).toNat false=List.getD (encF (numP k (iand .i64 p (281474976710655:Int)))) (placeK k (IntKind.wrap
 .i64 (List.getD fr (0+(x:Int).toNat) (0:Int)))).toNat false∧0=0∧true=!hitN (List.take x_1 wr) (x:Int).toNat∧0=(x_1:Int)∧fr=fr∧true=true∧wr=wr∧true=true∧si=si∧true=true∧k=k∧false=false∧encF (numP k (iand .i64 p (281474976710655:Int)))=encF
 (numP k (iand .i64 p (281474976710655:Int)))∧false=false∧spkA k wr si fr true x=spkA k wr si fr true x∧false=false∧spkA k wr si fr false x=spkA k wr si fr false x∧false=false∧cameA k fr x=cameA k fr x∧false=false∧false :: List.replicate
 (nat_lit 126) false=List.replicate 127 false∧false=false∧seenA fr x=seenA fr x∧false=false∧pkL k (encF (numP k (iand .i64 p (281474976710655:Int)))) wr si fr x=pkL k (encF (numP k (iand .i64 p (281474976710655:Int)))) wr si fr x∧false=false∧(loudS
 k (IntKind.wrap .i64 (List.getD fr (0+(x:Int).toNat) (0:Int))) (List.getD (encF (numP k (iand .i64 p (281474976710655:Int)))) (placeK k (IntKind.wrap .i64 (List.getD fr (0+(x:Int).toNat) (0:Int)))).toNat false)).1=(loudS k (IntKind.wrap
 .i64 (List.getD fr (0+(x:Int).toNat) (0:Int))) (if hitN (List.take x_1 wr) (x:Int).toNat=true then !List.getD (encF (numP k (iand .i64 p (281474976710655:Int)))) (placeK k (IntKind.wrap .i64 (List.getD fr (0+(x:Int).toNat) (0:Int)))).toNat
 false else List.getD (encF (numP k (iand .i64 p (281474976710655:Int)))) (placeK k (IntKind.wrap .i64 (List.getD fr (0+(x:Int).toNat) (0:Int)))).toNat false)).1∧(loudS k (IntKind.wrap .i64 (List.getD fr (0+(x:Int).toNat) (0:Int))) (List.getD
 (encF (numP k (iand .i64 p (281474976710655:Int)))) (placeK k (IntKind.wrap .i64 (List.getD fr (0+(x:Int).toNat) (0:Int)))).toNat false)).2=(loudS k (IntKind.wrap .i64 (List.getD fr (0+(x:Int).toNat) (0:Int))) (if hitN (List.take x_1
 wr) (x:Int).toNat=true then !List.getD (encF (numP k (iand .i64 p (281474976710655:Int)))) (placeK k (IntKind.wrap .i64 (List.getD fr (0+(x:Int).toNat) (0:Int)))).toNat false else List.getD (encF (numP k (iand .i64 p (281474976710655:Int))))
 (placeK k (IntKind.wrap .i64 (List.getD fr (0+(x:Int).toNat) (0:Int)))).toNat false)).2∧false=false)∧x_1≤List.length wr)∧∀ (x_2:Nat),x_2≤List.length wr→(IntKind.min .i64≤(x_2:Int)∧(x_2:Int)≤IntKind.max .i64∧∀ (y:List Int × List (List
 Int)),List.Mem y [loudS k (IntKind.wrap .i64 (List.getD fr (0+(x:Int).toNat) (0:Int))) (if hitN (List.take x_2 wr) (x:Int).toNat=true then !List.getD (encF (numP k (iand .i64 p (281474976710655:Int)))) (placeK k (IntKind.wrap .i64 (List.getD
 fr (0+(x:Int).toNat) (0:Int)))).toNat false else List.getD (encF (numP k (iand .i64 p (281474976710655:Int)))) (placeK k (IntKind.wrap .i64 (List.getD fr (0+(x:Int).toNat) (0:Int)))).toNat false)]→List.length y.1=8∧(∀ (y_1:Int),List.Mem
 y_1 y.1→IntKind.min .i64≤y_1∧y_1≤IntKind.max .i64)∧List.length y.2=8∧∀ (y_1:List Int),List.Mem y_1 y.2→List.length y_1=4∧∀ (y:Int),List.Mem y y_1→IntKind.min .i64≤y∧y≤IntKind.max .i64)→bif decide ((x_2:Int)<(n2:Int)) then ((0≤(x_2:Int)∧(x_2:Int)<(n2:Int))∧0+(x_2:Int).toNat<List.length
 wr)∧bif decide (IntKind.wrap .i64 (List.getD wr (0+(x_2:Int).toNat) (0:Int))=(x:Int)) then ∃ (y:Nat),(iand .i64 p (281474976710655:Int)=iand .i64 p (281474976710655:Int)∧0=0∧n1=n1∧0=0∧n2=n2∧0=0∧n3=n3∧0=0∧0=0∧0=0∧x=x∧0=0∧0=0∧0=0∧0=0∧0=0∧65536=65536∧(x:Int)=(x:Int)∧IntKind.wrap
 .i64 (List.getD fr (0+(x:Int).toNat) (0:Int))=IntKind.wrap .i64 (List.getD fr (0+(x:Int).toNat) (0:Int))∧placeK k (IntKind.wrap .i64 (List.getD fr (0+(x:Int).toNat) (0:Int)))=placeK k (IntKind.wrap .i64 (List.getD fr (0+(x:Int).toNat)
 (0:Int)))∧List.getD (encF (numP k (iand .i64 p (281474976710655:Int)))) (placeK k (IntKind.wrap .i64 (List.getD fr (0+(x:Int).toNat) (0:Int)))).toNat false=List.getD (encF (numP k (iand .i64 p (281474976710655:Int)))) (placeK k (IntKind.wrap
 .i64 (List.getD fr (0+(x:Int).toNat) (0:Int)))).toNat false∧0=0∧false=!hitN (List.take y wr) (x:Int).toNat∧IntKind.wrap .i64 ((x_2:Int)+1)=(y:Int)∧fr=fr∧true=true∧wr=wr∧true=true∧si=si∧true=true∧k=k∧false=false∧encF (numP k (iand .i64
 p (281474976710655:Int)))=encF (numP k (iand .i64 p (281474976710655:Int)))∧false=false∧spkA k wr si fr true x=spkA k wr si fr true x∧false=false∧spkA k wr si fr false x=spkA k wr si fr false x∧false=false∧cameA k fr x=cameA k fr x∧false=false∧false
 :: List.replicate (nat_lit 126) false=List.replicate 127 false∧false=false∧seenA fr x=seenA fr x∧false=false∧pkL k (encF (numP k (iand .i64 p (281474976710655:Int)))) wr si fr x=pkL k (encF (numP k (iand .i64 p (281474976710655:Int))))
 wr si fr x∧false=false∧(loudS k (IntKind.wrap .i64 (List.getD fr (0+(x:Int).toNat) (0:Int))) !List.getD (encF (numP k (iand .i64 p (281474976710655:Int)))) (placeK k (IntKind.wrap .i64 (List.getD fr (0+(x:Int).toNat) (0:Int)))).toNat
 false).1=(loudS k (IntKind.wrap .i64 (List.getD fr (0+(x:Int).toNat) (0:Int))) (if hitN (List.take y wr) (x:Int).toNat=true then !List.getD (encF (numP k (iand .i64 p (281474976710655:Int)))) (placeK k (IntKind.wrap .i64 (List.getD
 fr (0+(x:Int).toNat) (0:Int)))).toNat false else List.getD (encF (numP k (iand .i64 p (281474976710655:Int)))) (placeK k (IntKind.wrap .i64 (List.getD fr (0+(x:Int).toNat) (0:Int)))).toNat false)).1∧(loudS k (IntKind.wrap .i64 (List.getD
 fr (0+(x:Int).toNat) (0:Int))) !List.getD (encF (numP k (iand .i64 p (281474976710655:Int)))) (placeK k (IntKind.wrap .i64 (List.getD fr (0+(x:Int).toNat) (0:Int)))).toNat false).2=(loudS k (IntKind.wrap .i64 (List.getD fr (0+(x:Int).toNat)
 (0:Int))) (if hitN (List.take y wr) (x:Int).toNat=true then !List.getD (encF (numP k (iand .i64 p (281474976710655:Int)))) (placeK k (IntKind.wrap .i64 (List.getD fr (0+(x:Int).toNat) (0:Int)))).toNat false else List.getD (encF (numP
 k (iand .i64 p (281474976710655:Int)))) (placeK k (IntKind.wrap .i64 (List.getD fr (0+(x:Int).toNat) (0:Int)))).toNat false)).2∧false=false)∧y≤List.length wr∧List.length wr - y<List.length wr - x_2 else ∃ (y:Nat),(iand .i64 p (281474976710655:Int)=iand
 .i64 p (281474976710655:Int)∧0=0∧n1=n1∧0=0∧n2=n2∧0=0∧n3=n3∧0=0∧0=0∧0=0∧x=x∧0=0∧0=0∧0=0∧0=0∧0=0∧65536=65536∧(x:Int)=(x:Int)∧IntKind.wrap .i64 (List.getD fr (0+(x:Int).toNat) (0:Int))=IntKind.wrap .i64 (List.getD fr (0+(x:Int).toNat)
 (0:Int))∧placeK k (IntKind.wrap .i64 (List.getD fr (0+(x:Int).toNat) (0:Int)))=placeK k (IntKind.wrap .i64 (List.getD fr (0+(x:Int).toNat) (0:Int)))∧List.getD (encF (numP k (iand .i64 p (281474976710655:Int)))) (placeK k (IntKind.wrap
 .i64 (List.getD fr (0+(x:Int).toNat) (0:Int)))).toNat false=List.getD (encF (numP k (iand .i64 p (281474976710655:Int)))) (placeK k (IntKind.wrap .i64 (List.getD fr (0+(x:Int).toNat) (0:Int)))).toNat false∧0=0∧(!hitN (List.take x_2
 wr) (x:Int).toNat)=!hitN (List.take y wr) (x:Int).toNat∧IntKind.wrap .i64 ((x_2:Int)+1)=(y:Int)∧fr=fr∧true=true∧wr=wr∧true=true∧si=si∧true=true∧k=k∧false=false∧encF (numP k (iand .i64 p (281474976710655:Int)))=encF (numP k (iand .i64
 p (281474976710655:Int)))∧false=false∧spkA k wr si fr true x=spkA k wr si fr true x∧false=false∧spkA k wr si fr false x=spkA k wr si fr false x∧false=false∧cameA k fr x=cameA k fr x∧false=false∧false :: List.replicate (nat_lit 126)
 false=List.replicate 127 false∧false=false∧seenA fr x=seenA fr x∧false=false∧pkL k (encF (numP k (iand .i64 p (281474976710655:Int)))) wr si fr x=pkL k (encF (numP k (iand .i64 p (281474976710655:Int)))) wr si fr x∧false=false∧(loudS
 k (IntKind.wrap .i64 (List.getD fr (0+(x:Int).toNat) (0:Int))) (if hitN (List.take x_2 wr) (x:Int).toNat=true then !List.getD (encF (numP k (iand .i64 p (281474976710655:Int)))) (placeK k (IntKind.wrap .i64 (List.getD fr (0+(x:Int).toNat)
 (0:Int)))).toNat false else List.getD (encF (numP k (iand .i64 p (281474976710655:Int)))) (placeK k (IntKind.wrap .i64 (List.getD fr (0+(x:Int).toNat) (0:Int)))).toNat false)).1=(loudS k (IntKind.wrap .i64 (List.getD fr (0+(x:Int).toNat)
 (0:Int))) (if hitN (List.take y wr) (x:Int).toNat=true then !List.getD (encF (numP k (iand .i64 p (281474976710655:Int)))) (placeK k (IntKind.wrap .i64 (List.getD fr (0+(x:Int).toNat) (0:Int)))).toNat false else List.getD (encF (numP
 k (iand .i64 p (281474976710655:Int)))) (placeK k (IntKind.wrap .i64 (List.getD fr (0+(x:Int).toNat) (0:Int)))).toNat false)).1∧(loudS k (IntKind.wrap .i64 (List.getD fr (0+(x:Int).toNat) (0:Int))) (if hitN (List.take x_2 wr) (x:Int).toNat=true
 then !List.getD (encF (numP k (iand .i64 p (281474976710655:Int)))) (placeK k (IntKind.wrap .i64 (List.getD fr (0+(x:Int).toNat) (0:Int)))).toNat false else List.getD (encF (numP k (iand .i64 p (281474976710655:Int)))) (placeK k (IntKind.wrap
 .i64 (List.getD fr (0+(x:Int).toNat) (0:Int)))).toNat false)).2=(loudS k (IntKind.wrap .i64 (List.getD fr (0+(x:Int).toNat) (0:Int))) (if hitN (List.take y wr) (x:Int).toNat=true then !List.getD (encF (numP k (iand .i64 p (281474976710655:Int))))
 (placeK k (IntKind.wrap .i64 (List.getD fr (0+(x:Int).toNat) (0:Int)))).toNat false else List.getD (encF (numP k (iand .i64 p (281474976710655:Int)))) (placeK k (IntKind.wrap .i64 (List.getD fr (0+(x:Int).toNat) (0:Int)))).toNat false)).2∧false=false)∧y≤List.length
 wr∧List.length wr - y<List.length wr - x_2 else ∃ (x_3:Nat),((iand .i64 p (281474976710655:Int)=iand .i64 p (281474976710655:Int)∧0=0∧n1=n1∧0=0∧n2=n2∧0=0∧n3=n3∧0=0∧0=0∧0=0∧x=x∧0=0∧0=0∧0=0∧0=0∧0=0∧65536=65536∧(x:Int)=(x:Int)∧IntKind.wrap
 .i64 (List.getD fr (0+(x:Int).toNat) (0:Int))=IntKind.wrap .i64 (List.getD fr (0+(x:Int).toNat) (0:Int))∧placeK k (IntKind.wrap .i64 (List.getD fr (0+(x:Int).toNat) (0:Int)))=placeK k (IntKind.wrap .i64 (List.getD fr (0+(x:Int).toNat)
 (0:Int)))∧List.getD (encF (numP k (iand .i64 p (281474976710655:Int)))) (placeK k (IntKind.wrap .i64 (List.getD fr (0+(x:Int).toNat) (0:Int)))).toNat false=List.getD (encF (numP k (iand .i64 p (281474976710655:Int)))) (placeK k (IntKind.wrap
 .i64 (List.getD fr (0+(x:Int).toNat) (0:Int)))).toNat false∧0=0∧(!hitN (List.take x_2 wr) (x:Int).toNat)=(!hitN (List.take x_2 wr) (x:Int).toNat && !hitN (List.take x_3 si) (x:Int).toNat)∧0=(x_3:Int)∧fr=fr∧true=true∧wr=wr∧true=true∧si=si∧true=true∧k=k∧false=false∧encF
 (numP k (iand .i64 p (281474976710655:Int)))=encF (numP k (iand .i64 p (281474976710655:Int)))∧false=false∧spkA k wr si fr true x=spkA k wr si fr true x∧false=false∧spkA k wr si fr false x=spkA k wr si fr false x∧false=false∧cameA k
 fr x=cameA k fr x∧false=false∧false :: List.replicate (nat_lit 126) false=List.replicate 127 false∧false=false∧seenA fr x=seenA fr x∧false=false∧pkL k (encF (numP k (iand .i64 p (281474976710655:Int)))) wr si fr x=pkL k (encF (numP
 k (iand .i64 p (281474976710655:Int)))) wr si fr x∧false=false∧(loudS k (IntKind.wrap .i64 (List.getD fr (0+(x:Int).toNat) (0:Int))) (if hitN (List.take x_2 wr) (x:Int).toNat=true then !List.getD (encF (numP k (iand .i64 p (281474976710655:Int))))
 (placeK k (IntKind.wrap .i64 (List.getD fr (0+(x:Int).toNat) (0:Int)))).toNat false else List.getD (encF (numP k (iand .i64 p (281474976710655:Int)))) (placeK k (IntKind.wrap .i64 (List.getD fr (0+(x:Int).toNat) (0:Int)))).toNat false)).1=(if
 hitN (List.take x_3 si) (x:Int).toNat=true then zeroSH else loudS k (IntKind.wrap .i64 (List.getD fr (0+(x:Int).toNat) (0:Int))) (if hitN (List.take x_2 wr) (x:Int).toNat=true then !List.getD (encF (numP k (iand .i64 p (281474976710655:Int))))
 (placeK k (IntKind.wrap .i64 (List.getD fr (0+(x:Int).toNat) (0:Int)))).toNat false else List.getD (encF (numP k (iand .i64 p (281474976710655:Int)))) (placeK k (IntKind.wrap .i64 (List.getD fr (0+(x:Int).toNat) (0:Int)))).toNat false)).1∧(loudS
 k (IntKind.wrap .i64 (List.getD fr (0+(x:Int).toNat) (0:Int))) (if hitN (List.take x_2 wr) (x:Int).toNat=true then !List.getD (encF (numP k (iand .i64 p (281474976710655:Int)))) (placeK k (IntKind.wrap .i64 (List.getD fr (0+(x:Int).toNat)
 (0:Int)))).toNat false else List.getD (encF (numP k (iand .i64 p (281474976710655:Int)))) (placeK k (IntKind.wrap .i64 (List.getD fr (0+(x:Int).toNat) (0:Int)))).toNat false)).2=(if hitN (List.take x_3 si) (x:Int).toNat=true then zeroSH
 else loudS k (IntKind.wrap .i64 (List.getD fr (0+(x:Int).toNat) (0:Int))) (if hitN (List.take x_2 wr) (x:Int).toNat=true then !List.getD (encF (numP k (iand .i64 p (281474976710655:Int)))) (placeK k (IntKind.wrap .i64 (List.getD fr
 (0+(x:Int).toNat) (0:Int)))).toNat false else List.getD (encF (numP k (iand .i64 p (281474976710655:Int)))) (placeK k (IntKind.wrap .i64 (List.getD fr (0+(x:Int).toNat) (0:Int)))).toNat false)).2∧false=false)∧x_3≤List.length si)∧∀ (x_4:Nat),x_4≤List.length
 si→(IntKind.min .i64≤(x_4:Int)∧(x_4:Int)≤IntKind.max .i64∧∀ (y:List Int × List (List Int)),List.Mem y [if hitN (List.take x_4 si) (x:Int).toNat=true then zeroSH else loudS k (IntKind.wrap .i64 (List.getD fr (0+(x:Int).toNat) (0:Int)))
 (if hitN (List.take x_2 wr) (x:Int).toNat=true then !List.getD (encF (numP k (iand .i64 p (281474976710655:Int)))) (placeK k (IntKind.wrap .i64 (List.getD fr (0+(x:Int).toNat) (0:Int)))).toNat false else List.getD (encF (numP k (iand
 .i64 p (281474976710655:Int)))) (placeK k (IntKind.wrap .i64 (List.getD fr (0+(x:Int).toNat) (0:Int)))).toNat false)]→List.length y.1=8∧(∀ (y_1:Int),List.Mem y_1 y.1→IntKind.min .i64≤y_1∧y_1≤IntKind.max .i64)∧List.length y.2=8∧∀ (y_1:List
 Int),List.Mem y_1 y.2→List.length y_1=4∧∀ (y:Int),List.Mem y y_1→IntKind.min .i64≤y∧y≤IntKind.max .i64)→bif decide ((x_4:Int)<(n3:Int)) then ((0≤(x_4:Int)∧(x_4:Int)<(n3:Int))∧0+(x_4:Int).toNat<List.length si)∧bif decide (IntKind.wrap
 .i64 (List.getD si (0+(x_4:Int).toNat) (0:Int))=(x:Int)) then ∃ (y:Nat),(iand .i64 p (281474976710655:Int)=iand .i64 p (281474976710655:Int)∧0=0∧n1=n1∧0=0∧n2=n2∧0=0∧n3=n3∧0=0∧0=0∧0=0∧x=x∧0=0∧0=0∧0=0∧0=0∧0=0∧65536=65536∧(x:Int)=(x:Int)∧IntKind.wrap
 .i64 (List.getD fr (0+(x:Int).toNat) (0:Int))=IntKind.wrap .i64 (List.getD fr (0+(x:Int).toNat) (0:Int))∧placeK k (IntKind.wrap .i64 (List.getD fr (0+(x:Int).toNat) (0:Int)))=placeK k (IntKind.wrap .i64 (List.getD fr (0+(x:Int).toNat)
 (0:Int)))∧List.getD (encF (numP k (iand .i64 p (281474976710655:Int)))) (placeK k (IntKind.wrap .i64 (List.getD fr (0+(x:Int).toNat) (0:Int)))).toNat false=List.getD (encF (numP k (iand .i64 p (281474976710655:Int)))) (placeK k (IntKind.wrap
 .i64 (List.getD fr (0+(x:Int).toNat) (0:Int)))).toNat false∧0=0∧false=(!hitN (List.take x_2 wr) (x:Int).toNat && !hitN (List.take y si) (x:Int).toNat)∧IntKind.wrap .i64 ((x_4:Int)+1)=(y:Int)∧fr=fr∧true=true∧wr=wr∧true=true∧si=si∧true=true∧k=k∧false=false∧encF
 (numP k (iand .i64 p (281474976710655:Int)))=encF (numP k (iand .i64 p (281474976710655:Int)))∧false=false∧spkA k wr si fr true x=spkA k wr si fr true x∧false=false∧spkA k wr si fr false x=spkA k wr si fr false x∧false=false∧cameA k
 fr x=cameA k fr x∧false=false∧false :: List.replicate (nat_lit 126) false=List.replicate 127 false∧false=false∧seenA fr x=seenA fr x∧false=false∧pkL k (encF (numP k (iand .i64 p (281474976710655:Int)))) wr si fr x=pkL k (encF (numP
 k (iand .i64 p (281474976710655:Int)))) wr si fr x∧false=false∧List.replicate 8 (0:Int)=(if hitN (List.take y si) (x:Int).toNat=true then zeroSH else loudS k (IntKind.wrap .i64 (List.getD fr (0+(x:Int).toNat) (0:Int))) (if hitN (List.take
 x_2 wr) (x:Int).toNat=true then !List.getD (encF (numP k (iand .i64 p (281474976710655:Int)))) (placeK k (IntKind.wrap .i64 (List.getD fr (0+(x:Int).toNat) (0:Int)))).toNat false else List.getD (encF (numP k (iand .i64 p (281474976710655:Int))))
 (placeK k (IntKind.wrap .i64 (List.getD fr (0+(x:Int).toNat) (0:Int)))).toNat false)).1∧List.replicate 8 (List.replicate 4 (0:Int))=(if hitN (List.take y si) (x:Int).toNat=true then zeroSH else loudS k (IntKind.wrap .i64 (List.getD
 fr (0+(x:Int).toNat) (0:Int))) (if hitN (List.take x_2 wr) (x:Int).toNat=true then !List.getD (encF (numP k (iand .i64 p (281474976710655:Int)))) (placeK k (IntKind.wrap .i64 (List.getD fr (0+(x:Int).toNat) (0:Int)))).toNat false else
 List.getD (encF (numP k (iand .i64 p (281474976710655:Int)))) (placeK k (IntKind.wrap .i64 (List.getD fr (0+(x:Int).toNat) (0:Int)))).toNat false)).2∧false=false)∧y≤List.length si∧List.length si - y<List.length si - x_4 else ∃ (y:Nat),(iand
 .i64 p (281474976710655:Int)=iand .i64 p (281474976710655:Int)∧0=0∧n1=n1∧0=0∧n2=n2∧0=0∧n3=n3∧0=0∧0=0∧0=0∧x=x∧0=0∧0=0∧0=0∧0=0∧0=0∧65536=65536∧(x:Int)=(x:Int)∧IntKind.wrap .i64 (List.getD fr (0+(x:Int).toNat) (0:Int))=IntKind.wrap .i64
 (List.getD fr (0+(x:Int).toNat) (0:Int))∧placeK k (IntKind.wrap .i64 (List.getD fr (0+(x:Int).toNat) (0:Int)))=placeK k (IntKind.wrap .i64 (List.getD fr (0+(x:Int).toNat) (0:Int)))∧List.getD (encF (numP k (iand .i64 p (281474976710655:Int))))
 (placeK k (IntKind.wrap .i64 (List.getD fr (0+(x:Int).toNat) (0:Int)))).toNat false=List.getD (encF (numP k (iand .i64 p (281474976710655:Int)))) (placeK k (IntKind.wrap .i64 (List.getD fr (0+(x:Int).toNat) (0:Int)))).toNat false∧0=0∧(!hitN
 (List.take x_2 wr) (x:Int).toNat && !hitN (List.take x_4 si) (x:Int).toNat)=(!hitN (List.take x_2 wr) (x:Int).toNat && !hitN (List.take y si) (x:Int).toNat)∧IntKind.wrap .i64 ((x_4:Int)+1)=(y:Int)∧fr=fr∧true=true∧wr=wr∧true=true∧si=si∧true=true∧k=k∧false=false∧encF
 (numP k (iand .i64 p (281474976710655:Int)))=encF (numP k (iand .i64 p (281474976710655:Int)))∧false=false∧spkA k wr si fr true x=spkA k wr si fr true x∧false=false∧spkA k wr si fr false x=spkA k wr si fr false x∧false=false∧cameA k
 fr x=cameA k fr x∧false=false∧false :: List.replicate (nat_lit 126) false=List.replicate 127 false∧false=false∧seenA fr x=seenA fr x∧false=false∧pkL k (encF (numP k (iand .i64 p (281474976710655:Int)))) wr si fr x=pkL k (encF (numP
 k (iand .i64 p (281474976710655:Int)))) wr si fr x∧false=false∧(if hitN (List.take x_4 si) (x:Int).toNat=true then zeroSH else loudS k (IntKind.wrap .i64 (List.getD fr (0+(x:Int).toNat) (0:Int))) (if hitN (List.take x_2 wr) (x:Int).toNat=true
 then !List.getD (encF (numP k (iand .i64 p (281474976710655:Int)))) (placeK k (IntKind.wrap .i64 (List.getD fr (0+(x:Int).toNat) (0:Int)))).toNat false else List.getD (encF (numP k (iand .i64 p (281474976710655:Int)))) (placeK k (IntKind.wrap
 .i64 (List.getD fr (0+(x:Int).toNat) (0:Int)))).toNat false)).1=(if hitN (List.take y si) (x:Int).toNat=true then zeroSH else loudS k (IntKind.wrap .i64 (List.getD fr (0+(x:Int).toNat) (0:Int))) (if hitN (List.take x_2 wr) (x:Int).toNat=true
 then !List.getD (encF (numP k (iand .i64 p (281474976710655:Int)))) (placeK k (IntKind.wrap .i64 (List.getD fr (0+(x:Int).toNat) (0:Int)))).toNat false else List.getD (encF (numP k (iand .i64 p (281474976710655:Int)))) (placeK k (IntKind.wrap
 .i64 (List.getD fr (0+(x:Int).toNat) (0:Int)))).toNat false)).1∧(if hitN (List.take x_4 si) (x:Int).toNat=true then zeroSH else loudS k (IntKind.wrap .i64 (List.getD fr (0+(x:Int).toNat) (0:Int))) (if hitN (List.take x_2 wr) (x:Int).toNat=true
 then !List.getD (encF (numP k (iand .i64 p (281474976710655:Int)))) (placeK k (IntKind.wrap .i64 (List.getD fr (0+(x:Int).toNat) (0:Int)))).toNat false else List.getD (encF (numP k (iand .i64 p (281474976710655:Int)))) (placeK k (IntKind.wrap
 .i64 (List.getD fr (0+(x:Int).toNat) (0:Int)))).toNat false)).2=(if hitN (List.take y si) (x:Int).toNat=true then zeroSH else loudS k (IntKind.wrap .i64 (List.getD fr (0+(x:Int).toNat) (0:Int))) (if hitN (List.take x_2 wr) (x:Int).toNat=true
 then !List.getD (encF (numP k (iand .i64 p (281474976710655:Int)))) (placeK k (IntKind.wrap .i64 (List.getD fr (0+(x:Int).toNat) (0:Int)))).toNat false else List.getD (encF (numP k (iand .i64 p (281474976710655:Int)))) (placeK k (IntKind.wrap
 .i64 (List.getD fr (0+(x:Int).toNat) (0:Int)))).toNat false)).2∧false=false)∧y≤List.length si∧List.length si - y<List.length si - x_4 else ((1:Nat)≤1∧0+x=List.length (pkL k (encF (numP k (iand .i64 p (281474976710655:Int)))) wr si fr
 x)∧(x+List.length (seg ((IntKind.wrap .i64 (List.getD fr (0+(x:Int).toNat) (0:Int)),if hitN (List.take x_4 si) (x:Int).toNat=true then zeroSH else loudS k (IntKind.wrap .i64 (List.getD fr (0+(x:Int).toNat) (0:Int))) (if hitN (List.take
 x_2 wr) (x:Int).toNat=true then !List.getD (encF (numP k (iand .i64 p (281474976710655:Int)))) (placeK k (IntKind.wrap .i64 (List.getD fr (0+(x:Int).toNat) (0:Int)))).toNat false else List.getD (encF (numP k (iand .i64 p (281474976710655:Int))))
 (placeK k (IntKind.wrap .i64 (List.getD fr (0+(x:Int).toNat) (0:Int)))).toNat false)) :: List.replicate (nat_lit 0) ((0:Int),List.replicate 8 (0:Int),List.replicate 8 (List.replicate 4 (0:Int)))) (0:Nat) (1:Nat))) * 328≤70368744177664)∧((0≤IntKind.wrap
 .i64 (List.getD fr (0+(x:Int).toNat) (0:Int))∧IntKind.wrap .i64 (List.getD fr (0+(x:Int).toNat) (0:Int))<(↑ (65536:Nat):Int))∧0+(IntKind.wrap .i64 (List.getD fr (0+(x:Int).toNat) (0:Int))).toNat<List.length (seenA fr x))∧bif List.getD
 (seenA fr x) (0+(IntKind.wrap .i64 (List.getD fr (0+(x:Int).toNat) (0:Int))).toNat) false then ∃ (y:Nat),(iand .i64 p (281474976710655:Int)=iand .i64 p (281474976710655:Int)∧0=0∧n1=n1∧0=0∧n2=n2∧0=0∧n3=n3∧0=0∧0=0∧0=0∧x+List.length (seg
 ((IntKind.wrap .i64 (List.getD fr (0+(x:Int).toNat) (0:Int)),if hitN (List.take x_4 si) (x:Int).toNat=true then zeroSH else loudS k (IntKind.wrap .i64 (List.getD fr (0+(x:Int).toNat) (0:Int))) (if hitN (List.take x_2 wr) (x:Int).toNat=true
 then !List.getD (encF (numP k (iand .i64 p (281474976710655:Int)))) (placeK k (IntKind.wrap .i64 (List.getD fr (0+(x:Int).toNat) (0:Int)))).toNat false else List.getD (encF (numP k (iand .i64 p (281474976710655:Int)))) (placeK k (IntKind.wrap
 .i64 (List.getD fr (0+(x:Int).toNat) (0:Int)))).toNat false)) :: List.replicate (nat_lit 0) ((0:Int),List.replicate 8 (0:Int),List.replicate 8 (List.replicate 4 (0:Int)))) (0:Nat) (1:Nat))=y∧0=0∧0=0∧0=0∧0=0∧0=0∧65536=65536∧IntKind.wrap
 .i64 ((x:Int)+1)=(y:Int)∧fr=fr∧true=true∧wr=wr∧true=true∧si=si∧true=true∧k=k∧false=false∧encF (numP k (iand .i64 p (281474976710655:Int)))=encF (numP k (iand .i64 p (281474976710655:Int)))∧false=false∧spkA k wr si fr true x=spkA k wr
 si fr true y∧false=false∧spkA k wr si fr false x=spkA k wr si fr false y∧false=false∧cameA k fr x=cameA k fr y∧false=false∧false :: List.replicate (nat_lit 126) false=List.replicate 127 false∧false=false∧seenA fr x=seenA fr y∧false=false∧List.append
 (List.drop (0:Nat) (pkL k (encF (numP k (iand .i64 p (281474976710655:Int)))) wr si fr x)) (seg ((IntKind.wrap .i64 (List.getD fr (0+(x:Int).toNat) (0:Int)),if hitN (List.take x_4 si) (x:Int).toNat=true then zeroSH else loudS k (IntKind.wrap
 .i64 (List.getD fr (0+(x:Int).toNat) (0:Int))) (if hitN (List.take x_2 wr) (x:Int).toNat=true then !List.getD (encF (numP k (iand .i64 p (281474976710655:Int)))) (placeK k (IntKind.wrap .i64 (List.getD fr (0+(x:Int).toNat) (0:Int)))).toNat
 false else List.getD (encF (numP k (iand .i64 p (281474976710655:Int)))) (placeK k (IntKind.wrap .i64 (List.getD fr (0+(x:Int).toNat) (0:Int)))).toNat false)) :: List.replicate (nat_lit 0) ((0:Int),List.replicate 8 (0:Int),List.replicate
 8 (List.replicate 4 (0:Int)))) (0:Nat) (1:Nat))=pkL k (encF (numP k (iand .i64 p (281474976710655:Int)))) wr si fr y∧false=false)∧y≤List.length fr∧List.length fr - y<List.length fr - x else ((0≤IntKind.wrap .i64 (List.getD fr (0+(x:Int).toNat)
 (0:Int))∧IntKind.wrap .i64 (List.getD fr (0+(x:Int).toNat) (0:Int))<(↑ (65536:Nat):Int))∧0+(IntKind.wrap .i64 (List.getD fr (0+(x:Int).toNat) (0:Int))).toNat<List.length (seenA fr x))∧((0≤placeK k (IntKind.wrap .i64 (List.getD fr (0+(x:Int).toNat)
 (0:Int)))∧placeK k (IntKind.wrap .i64 (List.getD fr (0+(x:Int).toNat) (0:Int)))<(↑ (127:Nat):Int))∧(placeK k (IntKind.wrap .i64 (List.getD fr (0+(x:Int).toNat) (0:Int)))).toNat<127)∧bif !hitN (List.take x_2 wr) (x:Int).toNat && !hitN
 (List.take x_4 si) (x:Int).toNat then ((0≤placeK k (IntKind.wrap .i64 (List.getD fr (0+(x:Int).toNat) (0:Int)))∧placeK k (IntKind.wrap .i64 (List.getD fr (0+(x:Int).toNat) (0:Int)))<(↑ (127:Nat):Int))∧(placeK k (IntKind.wrap .i64 (List.getD
 fr (0+(x:Int).toNat) (0:Int)))).toNat<127∧(0≤placeK k (IntKind.wrap .i64 (List.getD fr (0+(x:Int).toNat) (0:Int)))∧placeK k (IntKind.wrap .i64 (List.getD fr (0+(x:Int).toNat) (0:Int)))<(↑ (127:Nat):Int))∧(placeK k (IntKind.wrap .i64
 (List.getD fr (0+(x:Int).toNat) (0:Int)))).toNat<127)∧∃ (y:Nat),(iand .i64 p (281474976710655:Int)=iand .i64 p (281474976710655:Int)∧0=0∧n1=n1∧0=0∧n2=n2∧0=0∧n3=n3∧0=0∧0=0∧0=0∧x+List.length (seg ((IntKind.wrap .i64 (List.getD fr (0+(x:Int).toNat)
 (0:Int)),if hitN (List.take x_4 si) (x:Int).toNat=true then zeroSH else loudS k (IntKind.wrap .i64 (List.getD fr (0+(x:Int).toNat) (0:Int))) (if hitN (List.take x_2 wr) (x:Int).toNat=true then !List.getD (encF (numP k (iand .i64 p (281474976710655:Int))))
 (placeK k (IntKind.wrap .i64 (List.getD fr (0+(x:Int).toNat) (0:Int)))).toNat false else List.getD (encF (numP k (iand .i64 p (281474976710655:Int)))) (placeK k (IntKind.wrap .i64 (List.getD fr (0+(x:Int).toNat) (0:Int)))).toNat false))
 :: List.replicate (nat_lit 0) ((0:Int),List.replicate 8 (0:Int),List.replicate 8 (List.replicate 4 (0:Int)))) (0:Nat) (1:Nat))=y∧0=0∧0=0∧0=0∧0=0∧0=0∧65536=65536∧IntKind.wrap .i64 ((x:Int)+1)=(y:Int)∧fr=fr∧true=true∧wr=wr∧true=true∧si=si∧true=true∧k=k∧false=false∧encF
 (numP k (iand .i64 p (281474976710655:Int)))=encF (numP k (iand .i64 p (281474976710655:Int)))∧false=false∧List.set (spkA k wr si fr true x) (placeK k (IntKind.wrap .i64 (List.getD fr (0+(x:Int).toNat) (0:Int)))).toNat (IntKind.wrap
 .i64 (List.getD (spkA k wr si fr true x) (placeK k (IntKind.wrap .i64 (List.getD fr (0+(x:Int).toNat) (0:Int)))).toNat (0:Int)+1))=spkA k wr si fr true y∧false=false∧spkA k wr si fr false x=spkA k wr si fr false y∧false=false∧List.set
 (cameA k fr x) (placeK k (IntKind.wrap .i64 (List.getD fr (0+(x:Int).toNat) (0:Int)))).toNat true=cameA k fr y∧false=false∧false :: List.replicate (nat_lit 126) false=List.replicate 127 false∧false=false∧List.set (seenA fr x) (0+(IntKind.wrap
 .i64 (List.getD fr (0+(x:Int).toNat) (0:Int))).toNat) true=seenA fr y∧false=false∧List.append (List.drop (0:Nat) (pkL k (encF (numP k (iand .i64 p (281474976710655:Int)))) wr si fr x)) (seg ((IntKind.wrap .i64 (List.getD fr (0+(x:Int).toNat)
 (0:Int)),if hitN (List.take x_4 si) (x:Int).toNat=true then zeroSH else loudS k (IntKind.wrap .i64 (List.getD fr (0+(x:Int).toNat) (0:Int))) (if hitN (List.take x_2 wr) (x:Int).toNat=true then !List.getD (encF (numP k (iand .i64 p (281474976710655:Int))))
 (placeK k (IntKind.wrap .i64 (List.getD fr (0+(x:Int).toNat) (0:Int)))).toNat false else List.getD (encF (numP k (iand .i64 p (281474976710655:Int)))) (placeK k (IntKind.wrap .i64 (List.getD fr (0+(x:Int).toNat) (0:Int)))).toNat false))
 :: List.replicate (nat_lit 0) ((0:Int),List.replicate 8 (0:Int),List.replicate 8 (List.replicate 4 (0:Int)))) (0:Nat) (1:Nat))=pkL k (encF (numP k (iand .i64 p (281474976710655:Int)))) wr si fr y∧false=false)∧y≤List.length fr∧List.length
 fr - y<List.length fr - x else ((0≤placeK k (IntKind.wrap .i64 (List.getD fr (0+(x:Int).toNat) (0:Int)))∧placeK k (IntKind.wrap .i64 (List.getD fr (0+(x:Int).toNat) (0:Int)))<(↑ (127:Nat):Int))∧(placeK k (IntKind.wrap .i64 (List.getD
 fr (0+(x:Int).toNat) (0:Int)))).toNat<127∧(0≤placeK k (IntKind.wrap .i64 (List.getD fr (0+(x:Int).toNat) (0:Int)))∧placeK k (IntKind.wrap .i64 (List.getD fr (0+(x:Int).toNat) (0:Int)))<(↑ (127:Nat):Int))∧(placeK k (IntKind.wrap .i64
 (List.getD fr (0+(x:Int).toNat) (0:Int)))).toNat<127)∧∃ (y:Nat),(iand .i64 p (281474976710655:Int)=iand .i64 p (281474976710655:Int)∧0=0∧n1=n1∧0=0∧n2=n2∧0=0∧n3=n3∧0=0∧0=0∧0=0∧x+List.length (seg ((IntKind.wrap .i64 (List.getD fr (0+(x:Int).toNat)
 (0:Int)),if hitN (List.take x_4 si) (x:Int).toNat=true then zeroSH else loudS k (IntKind.wrap .i64 (List.getD fr (0+(x:Int).toNat) (0:Int))) (if hitN (List.take x_2 wr) (x:Int).toNat=true then !List.getD (encF (numP k (iand .i64 p (281474976710655:Int))))
 (placeK k (IntKind.wrap .i64 (List.getD fr (0+(x:Int).toNat) (0:Int)))).toNat false else List.getD (encF (numP k (iand .i64 p (281474976710655:Int)))) (placeK k (IntKind.wrap .i64 (List.getD fr (0+(x:Int).toNat) (0:Int)))).toNat false))
 :: List.replicate (nat_lit 0) ((0:Int),List.replicate 8 (0:Int),List.replicate 8 (List.replicate 4 (0:Int)))) (0:Nat) (1:Nat))=y∧0=0∧0=0∧0=0∧0=0∧0=0∧65536=65536∧IntKind.wrap .i64 ((x:Int)+1)=(y:Int)∧fr=fr∧true=true∧wr=wr∧true=true∧si=si∧true=true∧k=k∧false=false∧encF
 (numP k (iand .i64 p (281474976710655:Int)))=encF (numP k (iand .i64 p (281474976710655:Int)))∧false=false∧spkA k wr si fr true x=spkA k wr si fr true y∧false=false∧List.set (spkA k wr si fr false x) (placeK k (IntKind.wrap .i64 (List.getD
 fr (0+(x:Int).toNat) (0:Int)))).toNat (IntKind.wrap .i64 (List.getD (spkA k wr si fr false x) (placeK k (IntKind.wrap .i64 (List.getD fr (0+(x:Int).toNat) (0:Int)))).toNat (0:Int)+1))=spkA k wr si fr false y∧false=false∧List.set (cameA
 k fr x) (placeK k (IntKind.wrap .i64 (List.getD fr (0+(x:Int).toNat) (0:Int)))).toNat true=cameA k fr y∧false=false∧false :: List.replicate (nat_lit 126) false=List.replicate 127 false∧false=false∧List.set (seenA fr x) (0+(IntKind.wrap
 .i64 (List.getD fr (0+(x:Int).toNat) (0:Int))).toNat) true=seenA fr y∧false=false∧List.append (List.drop (0:Nat) (pkL k (encF (numP k (iand .i64 p (281474976710655:Int)))) wr si fr x)) (seg ((IntKind.wrap .i64 (List.getD fr (0+(x:Int).toNat)
 (0:Int)),if hitN (List.take x_4 si) (x:Int).toNat=true then zeroSH else loudS k (IntKind.wrap .i64 (List.getD fr (0+(x:Int).toNat) (0:Int))) (if hitN (List.take x_2 wr) (x:Int).toNat=true then !List.getD (encF (numP k (iand .i64 p (281474976710655:Int))))
 (placeK k (IntKind.wrap .i64 (List.getD fr (0+(x:Int).toNat) (0:Int)))).toNat false else List.getD (encF (numP k (iand .i64 p (281474976710655:Int)))) (placeK k (IntKind.wrap .i64 (List.getD fr (0+(x:Int).toNat) (0:Int)))).toNat false))
 :: List.replicate (nat_lit 0) ((0:Int),List.replicate 8 (0:Int),List.replicate 8 (List.replicate 4 (0:Int)))) (0:Nat) (1:Nat))=pkL k (encF (numP k (iand .i64 p (281474976710655:Int)))) wr si fr y∧false=false)∧y≤List.length fr∧List.length
 fr - y<List.length fr - x else ∃ (x_1:Nat),((iand .i64 p (281474976710655:Int)=iand .i64 p (281474976710655:Int)∧0=0∧0=0∧x=x∧0=0∧0=0∧0=0∧0=0∧0=costA k wr si fr (List.length fr) x_1∧0=(x_1:Int)∧fr=fr∧true=true∧wr=wr∧true=true∧si=si∧true=true∧k=k∧false=false∧spkA
 k wr si fr true x=spkA k wr si fr true x∧false=false∧spkA k wr si fr false x=spkA k wr si fr false x∧false=false∧cameA k fr x=cameA k fr x∧false=false∧false :: List.replicate (nat_lit 126) false=List.map (fun (x:Bool) => !x) (List.take
 x_1 (cameA k fr (List.length fr))) ++ List.drop x_1 (List.replicate 127 false)∧false=false∧pkL k (encF (numP k (iand .i64 p (281474976710655:Int)))) wr si fr x=pkL k (encF (numP k (iand .i64 p (281474976710655:Int)))) wr si fr x∧false=false)∧x_1≤127)∧∀
 (x_2:Nat),x_2≤127→(IntKind.min .i64≤(x_2:Int)∧(x_2:Int)≤IntKind.max .i64∧IntKind.min .i64≤costA k wr si fr (List.length fr) x_2∧costA k wr si fr (List.length fr) x_2≤IntKind.max .i64∧∀ (y:List Bool),List.Mem y [List.map (fun (x:Bool)
 => !x) (List.take x_2 (cameA k fr (List.length fr))) ++ List.drop x_2 (List.replicate 127 false)]→List.length y=127∧∀ (y_1:Bool),List.Mem y_1 y→True)→bif decide ((x_2:Int)<127) then ((0≤(x_2:Int)∧(x_2:Int)<(↑ (127:Nat):Int))∧(x_2:Int).toNat<127∧(0≤(x_2:Int)∧(x_2:Int)<(↑
 (127:Nat):Int))∧(x_2:Int).toNat<127)∧∀ (b:Bool),List.getD (cameA k fr x) (x_2:Int).toNat false=b→((0≤(x_2:Int)∧(x_2:Int)<(↑ (127:Nat):Int))∧(x_2:Int).toNat<127∧(b=true→b=true∧0≤(x_2:Int)∧(x_2:Int)<(↑ (127:Nat):Int))∧(b=true→b=true∧(x_2:Int).toNat<127)∧(b=true→b=true∧0≤(x_2:Int)∧(x_2:Int)<(↑
 (127:Nat):Int))∧(b=true→b=true∧(x_2:Int).toNat<127)∧(b=true→b=true∧b=true)∧(b=true→b=true))∧bif bif b then decide (List.getD (spkA k wr si fr true x) (x_2:Int).toNat (0:Int)≤List.getD (spkA k wr si fr false x) (x_2:Int).toNat (0:Int))
 else false then ((0≤(x_2:Int)∧(x_2:Int)<(↑ (127:Nat):Int))∧(x_2:Int).toNat<127)∧bif List.getD (List.set (List.map (fun (x:Bool) => !x) (List.take x_2 (cameA k fr (List.length fr))) ++ List.drop x_2 (List.replicate 127 false)) (x_2:Int).toNat
 !List.getD (cameA k fr x) (x_2:Int).toNat false) (x_2:Int).toNat false then ∃ (y:Nat),(iand .i64 p (281474976710655:Int)=iand .i64 p (281474976710655:Int)∧0=0∧0=0∧x=x∧0=0∧0=0∧0=0∧0=0∧IntKind.wrap .i64 (IntKind.wrap .i64 (costA k wr
 si fr (List.length fr) x_2+2)+1)=costA k wr si fr (List.length fr) y∧IntKind.wrap .i64 ((x_2:Int)+1)=(y:Int)∧fr=fr∧true=true∧wr=wr∧true=true∧si=si∧true=true∧k=k∧false=false∧spkA k wr si fr true x=spkA k wr si fr true x∧false=false∧spkA
 k wr si fr false x=spkA k wr si fr false x∧false=false∧cameA k fr x=cameA k fr x∧false=false∧(List.set (List.map (fun (x:Bool) => !x) (List.take x_2 (cameA k fr (List.length fr))) ++ List.drop x_2 (List.replicate 127 false)) (x_2:Int).toNat
 !List.getD (cameA k fr x) (x_2:Int).toNat false)=List.map (fun (x:Bool) => !x) (List.take y (cameA k fr (List.length fr))) ++ List.drop y (List.replicate 127 false)∧false=false∧pkL k (encF (numP k (iand .i64 p (281474976710655:Int))))
 wr si fr x=pkL k (encF (numP k (iand .i64 p (281474976710655:Int)))) wr si fr x∧false=false)∧y≤127∧127 - y<127 - x_2 else ∃ (y:Nat),(iand .i64 p (281474976710655:Int)=iand .i64 p (281474976710655:Int)∧0=0∧0=0∧x=x∧0=0∧0=0∧0=0∧0=0∧IntKind.wrap
 .i64 (costA k wr si fr (List.length fr) x_2+2)=costA k wr si fr (List.length fr) y∧IntKind.wrap .i64 ((x_2:Int)+1)=(y:Int)∧fr=fr∧true=true∧wr=wr∧true=true∧si=si∧true=true∧k=k∧false=false∧spkA k wr si fr true x=spkA k wr si fr true x∧false=false∧spkA
 k wr si fr false x=spkA k wr si fr false x∧false=false∧cameA k fr x=cameA k fr x∧false=false∧(List.set (List.map (fun (x:Bool) => !x) (List.take x_2 (cameA k fr (List.length fr))) ++ List.drop x_2 (List.replicate 127 false)) (x_2:Int).toNat
 !List.getD (cameA k fr x) (x_2:Int).toNat false)=List.map (fun (x:Bool) => !x) (List.take y (cameA k fr (List.length fr))) ++ List.drop y (List.replicate 127 false)∧false=false∧pkL k (encF (numP k (iand .i64 p (281474976710655:Int))))
 wr si fr x=pkL k (encF (numP k (iand .i64 p (281474976710655:Int)))) wr si fr x∧false=false)∧y≤127∧127 - y<127 - x_2 else ((0≤(x_2:Int)∧(x_2:Int)<(↑ (127:Nat):Int))∧(x_2:Int).toNat<127)∧bif List.getD (List.set (List.map (fun (x:Bool)
 => !x) (List.take x_2 (cameA k fr (List.length fr))) ++ List.drop x_2 (List.replicate 127 false)) (x_2:Int).toNat !List.getD (cameA k fr x) (x_2:Int).toNat false) (x_2:Int).toNat false then ∃ (y:Nat),(iand .i64 p (281474976710655:Int)=iand
 .i64 p (281474976710655:Int)∧0=0∧0=0∧x=x∧0=0∧0=0∧0=0∧0=0∧IntKind.wrap .i64 (costA k wr si fr (List.length fr) x_2+1)=costA k wr si fr (List.length fr) y∧IntKind.wrap .i64 ((x_2:Int)+1)=(y:Int)∧fr=fr∧true=true∧wr=wr∧true=true∧si=si∧true=true∧k=k∧false=false∧spkA
 k wr si fr true x=spkA k wr si fr true x∧false=false∧spkA k wr si fr false x=spkA k wr si fr false x∧false=false∧cameA k fr x=cameA k fr x∧false=false∧(List.set (List.map (fun (x:Bool) => !x) (List.take x_2 (cameA k fr (List.length
 fr))) ++ List.drop x_2 (List.replicate 127 false)) (x_2:Int).toNat !List.getD (cameA k fr x) (x_2:Int).toNat false)=List.map (fun (x:Bool) => !x) (List.take y (cameA k fr (List.length fr))) ++ List.drop y (List.replicate 127 false)∧false=false∧pkL
 k (encF (numP k (iand .i64 p (281474976710655:Int)))) wr si fr x=pkL k (encF (numP k (iand .i64 p (281474976710655:Int)))) wr si fr x∧false=false)∧y≤127∧127 - y<127 - x_2 else ∃ (y:Nat),(iand .i64 p (281474976710655:Int)=iand .i64 p
 (281474976710655:Int)∧0=0∧0=0∧x=x∧0=0∧0=0∧0=0∧0=0∧costA k wr si fr (List.length fr) x_2=costA k wr si fr (List.length fr) y∧IntKind.wrap .i64 ((x_2:Int)+1)=(y:Int)∧fr=fr∧true=true∧wr=wr∧true=true∧si=si∧true=true∧k=k∧false=false∧spkA
 k wr si fr true x=spkA k wr si fr true x∧false=false∧spkA k wr si fr false x=spkA k wr si fr false x∧false=false∧cameA k fr x=cameA k fr x∧false=false∧(List.set (List.map (fun (x:Bool) => !x) (List.take x_2 (cameA k fr (List.length
 fr))) ++ List.drop x_2 (List.replicate 127 false)) (x_2:Int).toNat !List.getD (cameA k fr x) (x_2:Int).toNat false)=List.map (fun (x:Bool) => !x) (List.take y (cameA k fr (List.length fr))) ++ List.drop y (List.replicate 127 false)∧false=false∧pkL
 k (encF (numP k (iand .i64 p (281474976710655:Int)))) wr si fr x=pkL k (encF (numP k (iand .i64 p (281474976710655:Int)))) wr si fr x∧false=false)∧y≤127∧127 - y<127 - x_2 else (x=List.length (pkL k (encF (numP k (iand .i64 p (281474976710655:Int))))
 wr si fr x)∧x≤1000000)∧∀ (b:Bool),decide (20<costA k wr si fr (List.length fr) x_2)=b→∀ (b_3:Bool),decide (payE k (pkL k (encF (numP k (iand .i64 p (281474976710655:Int)))) wr si fr x)=0)=b_3→(((!b)=true→(!b)=true)∧((!b && !b && b_3)=true→(!b
 && !b && b_3)=true∧(!b && !b && b_3)=true)∧((!b)=true→(!b && !b)=true∧(b_3=true→(!b && !b && b_3)=true))∧(b=false→(!b)=true))∧(bif b then true else bif b_3 then decide (payI k (pkL k (encF (numP k (iand .i64 p (281474976710655:Int))))
 wr si fr x)=iand .i64 p (281474976710655:Int)) else false)=true∧fr=fr∧true=true∧wr=wr∧true=true∧si=si∧true=true
theorem vcv5 (k : List Int) (p : Int) (fr wr si : List Int) (n1 n2 n3 : Nat) : Pv5 k p fr wr si n1 n2 n3 = vcFun Cv5 (annv5 k p fr wr si n1 n2 n3) Go.Proofs.Tryd.f5 [⟨.arr 16 (.int .u8), k⟩, ⟨.int .i64, p⟩, ⟨.ref .slice, .slice 0 (.int .u16) [] 0 n1⟩, ⟨.ref .slice, .slice 1 (.int .u16) [] 0 n2⟩, ⟨.ref .slice, .slice 2 (.int .u16) [] 0 n3⟩] [⟨true, false, .int .u16, fr⟩, ⟨true, false, .int .u16, wr⟩, ⟨true, false, .int .u16, si⟩] (outv5 k p fr wr si n1 n2 n3) := by kernel_rfl

end Go.SL.A

/- A payload that is carried: the code as a plain condition holds. -/
namespace Go.SL.A
open Go Go.SL Go.SL.S
set_option maxRecDepth 100000

theorem hwv5 {k : List Int} {p : Int} {fr wr si : List Int} {n1 n2 n3 : Nat} (hw : Go.SL.allP (List.flatMap (fun a : AV => a.t.wf a.x) [⟨.arr 16 (.int .u8), k⟩, ⟨.int .i64, p⟩, ⟨.ref .slice, .slice 0 (.int .u16) [] 0 n1⟩, ⟨.ref .slice, .slice 1 (.int .u16) [] 0 n2⟩, ⟨.ref .slice, .slice 2 (.int .u16) [] 0 n3⟩] ++ List.flatMap Blk.wf [⟨true, false, .int .u16, fr⟩, ⟨true, false, .int .u16, wr⟩, ⟨true, false, .int .u16, si⟩])) : (∀ x ∈ fr, 0 ≤ x ∧ x ≤ 65535) ∧ (∀ x ∈ wr, 0 ≤ x ∧ x ≤ 65535) ∧ ∀ x ∈ si, 0 ≤ x ∧ x ≤ 65535 := by
  simp only [List.flatMap_cons, List.flatMap_nil, Ty.wf, Blk.wf, List.append_nil, List.cons_append, List.nil_append, Go.SL.allP] at hw
  have e3 : IntKind.u16.min = 0 := by decide
  have e4 : IntKind.u16.max = 65535 := by decide
  rw [e3, e4] at hw
  exact ⟨hw.2.2.2.2.1, hw.2.2.2.2.2.1, hw.2.2.2.2.2.2⟩
theorem hit_take {l : List Int} {j : Nat} (h : j < l.length) (i : Nat) : hitN (l.take (j + 1)) i = (hitN (l.take j) i || decide (l.getD j 0 = (i : Int))) := by
  unfold hitN
  rw [List.take_add_one, List.getElem?_eq_getElem h, List.any_append, List.getD_eq_getElem?_getD, List.getElem?_eq_getElem h]
  simp
theorem u16_at {l : List Int} (h : ∀ x ∈ l, 0 ≤ x ∧ x ≤ 65535) (j : Nat) : IntKind.i64.wrap (l.getD j 0) = l.getD j 0 := by
  by_cases hj : j < l.length
  · have := h _ (getD_mem (d := 0) hj)
    exact w64 (by omega) (by omega)
  · rw [List.getD_eq_getElem?_getD, List.getElem?_eq_none (by omega)]; decide
theorem pk_step (k : List Int) (w : List Bool) (wr si fr : List Int) (i : Nat) : pkL k w wr si fr (i + 1) = pkL k w wr si fr i ++ [pkA k w wr si fr i] := by
  unfold pkL; rw [List.range_succ, List.map_append]; rfl
theorem pk_len (k : List Int) (w : List Bool) (wr si fr : List Int) (i : Nat) : (pkL k w wr si fr i).length = i := by simp [pkL]
theorem spkA_bound (k wr si fr : List Int) (ok : Bool) : ∀ (i : Nat) (q : Nat), 0 ≤ (spkA k wr si fr ok i).getD q 0 ∧ (spkA k wr si fr ok i).getD q 0 ≤ (i : Int)
  | 0, q => by
    rw [spkA, List.getD_eq_getElem?_getD, List.getElem?_replicate]
    split <;> simp
  | i + 1, q => by
    have ih := spkA_bound k wr si fr ok i q
    have hl := spkA_len k wr si fr ok i
    have pf := place_fit k (fr.getD i 0)
    have pn : (placeK k (fr.getD i 0)).toNat < (spkA k wr si fr ok i).length := by rw [hl]; exact (fun (x : Int) (h : 0 ≤ x ∧ x < 127) => (by omega : x.toNat < 127)) _ pf
    rw [spkA]
    split
    · push_cast; omega
    · split
      · rw [getD_addAt pn]
        push_cast
        split <;> omega
      · push_cast; omega
theorem cost_bound (k wr si fr : List Int) (n : Nat) : ∀ q : Nat, 0 ≤ costA k wr si fr n q ∧ costA k wr si fr n q ≤ 3 * (q : Int)
  | 0 => by rw [costA]; omega
  | q + 1 => by
    have := cost_bound k wr si fr n q
    rw [costA]
    push_cast
    split <;> split <;> omega
theorem not_step (c : List Bool) (hl : c.length = 127) {i : Nat} (h : i < 127) : List.set ((c.take i).map (fun x => !x) ++ (List.replicate 127 false).drop i) i (!(c.getD i false)) = (c.take (i + 1)).map (fun x => !x) ++ (List.replicate 127 false).drop (i + 1) ∧
    (List.set ((c.take i).map (fun x => !x) ++ (List.replicate 127 false).drop i) i (!(c.getD i false))).getD i false = !(c.getD i false) := by
  have e : (List.replicate 127 false).drop i = false :: (List.replicate 127 false).drop (i + 1) := by
    rw [List.drop_replicate, List.drop_replicate, show 127 - i = (127 - (i + 1)) + 1 by omega, List.replicate_succ]
  have hm : ((c.take i).map (fun x => !x)).length = i := by rw [List.length_map, List.length_take]; omega
  constructor
  · rw [List.set_append, if_neg (by omega), hm, Nat.sub_self, e, List.set_cons_zero, List.take_add_one, List.getElem?_eq_getElem (by omega), List.map_append, List.append_assoc, List.getD_eq_getElem?_getD, List.getElem?_eq_getElem (by omega)]
    rfl
  · have hl2 : i < ((c.take i).map (fun x => !x) ++ (List.replicate 127 false).drop i).length := by rw [List.length_append, hm, List.length_drop, List.length_replicate]; omega
    rw [List.getD_eq_getElem?_getD, List.getElem?_set, if_pos rfl, if_pos hl2]; rfl
theorem rep_succ {α : Type} (n : Nat) (a : α) : a :: List.replicate n a = List.replicate (n + 1) a := (List.replicate_succ).symm
theorem purev5 (k : List Int) (p : Int) (fr wr si : List Int) (n1 n2 n3 : Nat) (hp : n1 = fr.length ∧ n2 = wr.length ∧ n3 = si.length) (hf : (∀ x ∈ fr, 0 ≤ x ∧ x ≤ 65535) ∧ (∀ x ∈ wr, 0 ≤ x ∧ x ≤ 65535) ∧ ∀ x ∈ si, 0 ≤ x ∧ x ≤ 65535) : Pv5 k p fr wr si n1 n2 n3 := by
  obtain ⟨rfl, rfl, rfl⟩ := hp
  obtain ⟨hfr, hwr, hsi⟩ := hf
  unfold Pv5
  rintro b rfl b1 rfl b2 rfl
  refine ⟨by simp, ?_⟩
  rw [cond_false]
  by_cases c1 : (200 : Int) < (fr.length : Int)
  · rw [decide_eq_true c1, cond_true, cond_true, cond_true]; simp only [eq_self, and_self]
  rw [decide_eq_false c1, cond_false]
  by_cases c2 : (200 : Int) < (wr.length : Int)
  · rw [decide_eq_true c2, cond_true, cond_true]; simp only [eq_self, and_self]
  rw [decide_eq_false c2, cond_false]
  by_cases c3 : (200 : Int) < (si.length : Int)
  · rw [decide_eq_true c3, cond_true]; simp only [eq_self, and_self]
  rw [decide_eq_false c3, cond_false]
  simp only [iand48']
  have hP : 0 ≤ p % 281474976710656 ∧ p % 281474976710656 < 281474976710656 := by omega
  generalize p % 281474976710656 = P at *
  have hm := mayL_of hP
  have hC := carry_ok k wr si hP hfr
  rw [show layW k P = encF (numP k P) from by unfold layW; rw [if_pos hm]] at hC
  generalize encF (numP k P) = w at *
  simp only [eq_self, true_and, and_true, Int.toNat_natCast, Nat.zero_add]
  refine ⟨hm, by decide, 0, ⟨⟨rfl, rfl, rep_succ _ _, rep_succ _ _, rep_succ _ _, rep_succ _ _, rep_succ _ _, rfl⟩, Nat.zero_le _⟩, fun i hi hw => ?_⟩
  clear hw
  by_cases h : i < fr.length
  · rw [decide_eq_true (show (i : Int) < (fr.length : Int) by omega), cond_true]
    have hil : (0 : Int) ≤ (i : Int) ∧ (i : Int) < (fr.length : Int) := by omega
    have hf := hfr _ (getD_mem (d := 0) h)
    have eS := seenA.eq_2 fr i
    have eO := fun ok => spkA.eq_2 k wr si fr ok i
    have eC := cameA.eq_2 k fr i
    have eL := pk_step k w wr si fr i
    have eP : pkA k w wr si fr i = (fr.getD i 0, if hitN si i then zeroSH else loudS k (fr.getD i 0) (if hitN wr i then !(w.getD (placeK k (fr.getD i 0)).toNat false) else w.getD (placeK k (fr.getD i 0)).toNat false)) := rfl
    have sl := seenA_len fr i
    have pl := pk_len k w wr si fr i
    have bT := spkA_bound k wr si fr true i (placeK k (fr.getD i 0)).toNat
    have bF := spkA_bound k wr si fr false i (placeK k (fr.getD i 0)).toNat
    rw [eP] at eL
    clear eP hC
    simp only [u16_at hfr, u16_at hwr, u16_at hsi]
    have pf := place_fit k (fr.getD i 0)
    generalize fr.getD i 0 = f at *
    generalize placeK k f = q at *
    have pn : q.toNat < 127 := by omega
    generalize w.getD q.toNat false = bt at *
    refine ⟨⟨hil, h⟩, ⟨⟨pf.1, by omega⟩, pn⟩, 0, ⟨⟨rfl, rfl, rep_succ _ _, rfl, rfl⟩, Nat.zero_le _⟩, fun j hj hw => ?_⟩
    clear hw
    by_cases h2 : j < wr.length
    · rw [decide_eq_true (show (j : Int) < (wr.length : Int) by omega), cond_true]
      refine ⟨⟨⟨by omega, by omega⟩, h2⟩, ?_⟩
      have ht := hit_take h2 i
      have sj := step_i (i := j) (by omega)
      have jj : j + 1 ≤ wr.length ∧ wr.length - (j + 1) < wr.length - j := by omega
      by_cases e : wr.getD j 0 = (i : Int)
      · rw [decide_eq_true e, Bool.or_true] at ht
        rw [decide_eq_true e, cond_true]
        exact ⟨j + 1, ⟨by rw [ht]; rfl, sj, rep_succ _ _, by rw [ht]; rfl, by rw [ht]; rfl⟩, jj.1, jj.2⟩
      · rw [decide_eq_false e, Bool.or_false] at ht
        rw [decide_eq_false e, cond_false]
        exact ⟨j + 1, ⟨by rw [ht], sj, rep_succ _ _, by rw [ht], by rw [ht]⟩, jj.1, jj.2⟩
    · have ej : j = wr.length := by omega
      rw [decide_eq_false (by omega), cond_false, ej, List.take_length]
      have eok : okA wr si i = (!hitN wr i && !hitN si i) := rfl
      rw [eok] at eO
      generalize hitN wr i = hW at *
      generalize loudS k f (if hW = true then !bt else bt) = lo at *
      refine ⟨0, ⟨⟨by rw [List.take_zero]; cases hW <;> rfl, rfl, rep_succ _ _, rfl, rfl⟩, Nat.zero_le _⟩, fun t ht0 hw => ?_⟩
      clear hw
      by_cases h3 : t < si.length
      · rw [decide_eq_true (show (t : Int) < (si.length : Int) by omega), cond_true]
        refine ⟨⟨⟨by omega, by omega⟩, h3⟩, ?_⟩
        have ht := hit_take h3 i
        have st := step_i (i := t) (by omega)
        have tt : t + 1 ≤ si.length ∧ si.length - (t + 1) < si.length - t := by omega
        by_cases e : si.getD t 0 = (i : Int)
        · rw [decide_eq_true e, Bool.or_true] at ht
          rw [decide_eq_true e, cond_true]
          exact ⟨t + 1, ⟨by rw [ht]; cases hW <;> rfl, st, rep_succ _ _, by rw [ht]; rfl, by rw [ht]; rfl⟩, tt.1, tt.2⟩
        · rw [decide_eq_false e, Bool.or_false] at ht
          rw [decide_eq_false e, cond_false]
          exact ⟨t + 1, ⟨by rw [ht], st, rep_succ _ _, by rw [ht], by rw [ht]⟩, tt.1, tt.2⟩
      · have et : t = si.length := by omega
        rw [decide_eq_false (by omega), cond_false, et, List.take_length]
        generalize hitN si i = hS at *
        generalize (if hS = true then zeroSH else lo) = sh at *
        have f8 : (0 ≤ f ∧ f < ((65536 : Nat) : Int)) ∧ f.toNat < (seenA fr i).length := by rw [sl]; exact ⟨⟨hf.1, by omega⟩, by omega⟩
        have q8 : (0 ≤ q ∧ q < ((127 : Nat) : Int)) ∧ q.toNat < 127 := ⟨⟨pf.1, by omega⟩, pn⟩
        have es : seg ((f, sh) :: List.replicate 0 ((0 : Int), List.replicate 8 (0 : Int), List.replicate 8 (List.replicate 4 (0 : Int)))) 0 1 = [(f, sh)] := rfl
        have sg := step_i (i := i) (by omega)
        have ii : i + 1 ≤ fr.length ∧ fr.length - (i + 1) < fr.length - i := by omega
        have fin : (List.drop 0 (pkL k w wr si fr i)).append [(f, sh)] = pkL k w wr si fr (i + 1) := by rw [eL]; rfl
        rw [es]
        refine ⟨⟨by decide, by rw [pl], ?_⟩, f8, ?_⟩
        · rw [List.length_singleton]; omega
        have eT := eO true
        have eF := eO false
        have wT : IntKind.i64.wrap ((spkA k wr si fr true i).getD q.toNat 0 + 1) = (spkA k wr si fr true i).getD q.toNat 0 + 1 := w64 (by omega) (by omega)
        have wF : IntKind.i64.wrap ((spkA k wr si fr false i).getD q.toNat 0 + 1) = (spkA k wr si fr false i).getD q.toNat 0 + 1 := w64 (by omega) (by omega)
        cases hs : (seenA fr i).getD f.toNat false with
        | true =>
          rw [hs, if_pos rfl] at eS eC eT eF
          rw [cond_true]
          exact ⟨i + 1, ⟨rfl, sg, eT.symm, eF.symm, eC.symm, rep_succ _ _, eS.symm, fin⟩, ii.1, ii.2⟩
        | false =>
          rw [hs, if_neg (by decide)] at eS eC eT eF
          rw [cond_false]
          refine ⟨f8, q8, ?_⟩
          cases ho : (!hW && !hS) with
          | true =>
            rw [ho, if_pos rfl] at eT
            rw [ho, if_neg (by decide)] at eF
            rw [cond_true, wT]
            exact ⟨⟨q8.1, q8.2, q8.1, q8.2⟩, i + 1, ⟨rfl, sg, eT.symm, eF.symm, eC.symm, rep_succ _ _, eS.symm, fin⟩, ii.1, ii.2⟩
          | false =>
            rw [ho, if_neg (by decide)] at eT
            rw [ho, if_pos rfl] at eF
            rw [cond_false, wF]
            exact ⟨⟨q8.1, q8.2, q8.1, q8.2⟩, i + 1, ⟨rfl, sg, eT.symm, eF.symm, eC.symm, rep_succ _ _, eS.symm, fin⟩, ii.1, ii.2⟩
  · have ei : i = fr.length := by omega
    subst ei
    rw [decide_eq_false (by omega), cond_false]
    have hcl := cameA_len k fr fr.length
    have pl := pk_len k w wr si fr fr.length
    generalize hc : cameA k fr fr.length = cm at *
    refine ⟨0, ⟨⟨rfl, rfl, rep_succ _ _⟩, by omega⟩, fun t ht hw => ?_⟩
    clear hw
    have cb := cost_bound k wr si fr fr.length t
    by_cases h3 : t < 127
    · rw [decide_eq_true (show (t : Int) < 127 by omega), cond_true]
      have t8 : ((0 : Int) ≤ (t : Int) ∧ (t : Int) < ((127 : Nat) : Int)) ∧ t < 127 := ⟨⟨by omega, by omega⟩, h3⟩
      obtain ⟨n1, n2⟩ := not_step cm hcl h3
      have st := step_i (i := t) (by omega)
      have tt : t + 1 ≤ 127 ∧ 127 - (t + 1) < 127 - t := by omega
      have ec := costA.eq_2 k wr si fr fr.length t
      rw [hc] at ec
      rw [n2]
      refine ⟨⟨t8.1, t8.2, t8.1, t8.2⟩, ?_⟩
      rintro b rfl
      refine ⟨⟨t8.1, t8.2, fun h => ⟨h, t8.1⟩, fun h => ⟨h, t8.2⟩, fun h => ⟨h, t8.1⟩, fun h => ⟨h, t8.2⟩, fun h => ⟨h, h⟩, fun h => h⟩, ?_⟩
      generalize costA k wr si fr fr.length t = C at *
      have w1 : IntKind.i64.wrap (C + 1) = C + 1 := w64 (by omega) (by omega)
      have w2 : IntKind.i64.wrap (C + 2) = C + 2 := w64 (by omega) (by omega)
      cases hb : cm.getD t false with
      | true =>
        rw [hb] at ec n1
        rw [Bool.not_true] at n1 ⊢
        rw [cond_true]
        by_cases huv : (spkA k wr si fr true fr.length).getD t 0 ≤ (spkA k wr si fr false fr.length).getD t 0
        · rw [decide_eq_true huv, cond_true, cond_false, w2]
          rw [if_pos ⟨rfl, huv⟩, if_neg (by decide), Int.add_zero] at ec
          exact ⟨⟨t8.1, t8.2⟩, t + 1, ⟨ec.symm, st, n1⟩, tt.1, tt.2⟩
        · rw [decide_eq_false huv, cond_false, cond_false]
          rw [if_neg (fun h => huv h.2), if_neg (by decide), Int.add_zero, Int.add_zero] at ec
          exact ⟨⟨t8.1, t8.2⟩, t + 1, ⟨ec.symm, st, n1⟩, tt.1, tt.2⟩
      | false =>
        rw [hb] at ec n1
        rw [Bool.not_false] at n1 ⊢
        rw [cond_false, cond_false, cond_true, w1]
        rw [if_neg (fun h => by cases h.1), if_pos rfl, Int.add_zero] at ec
        exact ⟨⟨t8.1, t8.2⟩, t + 1, ⟨ec.symm, st, n1⟩, tt.1, tt.2⟩
    · have et : t = 127 := by omega
      subst et
      rw [decide_eq_false (by omega), cond_false]
      refine ⟨⟨by rw [pl], by omega⟩, ?_⟩
      rintro b rfl b3 rfl
      have e1 : payE k (pkL k w wr si fr fr.length) = takeE k (votesF k (pkL k w wr si fr fr.length) 0) := rfl
      have e2 : payI k (pkL k w wr si fr fr.length) = takeI k (votesF k (pkL k w wr si fr fr.length) 0) := rfl
      rw [e1, e2]
      generalize takeE k (votesF k (pkL k w wr si fr fr.length) 0) = E at *
      generalize takeI k (votesF k (pkL k w wr si fr fr.length) 0) = I at *
      generalize costA k wr si fr fr.length 127 = C at *
      by_cases hc2 : 20 < C
      · rw [decide_eq_true hc2]
        exact ⟨⟨fun h => h, (fun h => ⟨h, h⟩), (fun h => by cases h), (fun h => by cases h)⟩, rfl⟩
      · obtain ⟨g1, g2⟩ := hC (by omega)
        rw [decide_eq_false hc2, decide_eq_true g1, decide_eq_true g2]
        exact ⟨⟨fun h => h, (fun h => ⟨h, h⟩), (fun _ => ⟨rfl, fun _ => rfl⟩), fun _ => rfl⟩, rfl⟩
end Go.SL.A

/- Functions do what they are held to do. -/
namespace Go.SL.A
open Go Go.SL Go.SL.S
theorem sndv5 : Sound Go.Proofs.Tryd.prog Gv5 := sndv19.add ⟨_, Go.Proofs.Tryd.func5, by kernel_rfl, by kernel_rfl⟩ (by
  intro args ins out h hp
  unfold spv5 at h
  split at h
  · rename_i k p n1 n2 n3 fr wr si
    cases h
    exact vcFun_ok (C := Cv5) good sndv19 Meth.none mix Go.Proofs.Tryd.func5 (annv5 k p fr wr si n1 n2 n3) (fun hw => by rw [← vcv5 k p fr wr si n1 n2 n3]; exact purev5 k p fr wr si n1 n2 n3 hp (hwv5 hw))
  · cases h)

end Go.SL.A
