/- Part 6 of what the statements of this seat need: a logic of states for the code of the model, the functions that they reach, and what these are held to do: no condition. -/
import Derived.Test.YteahjgigkbkcdaaDoorRows
import Derived.JoinedOf
import Derived.KernelRfl
import Derived.ProofKit
import Derived.ChangeArms
import Derived.Handed
import Derived.LaidLaws
import Derived.LaidHandle
import Derived.Test.YteahjgigkbkcdaaDoorS05
import Derived.Test.YteahjgigkbkcdaaDoorS02
import Derived.Test.YteahjgigkbkcdaaDoorS03

/- Functions and what they are held to do: bound to their code. -/
namespace Go.SL.A
open Go Go.SL Go.SL.S
set_option maxRecDepth 100000
noncomputable section
noncomputable def Ct12 : Ctx := ⟨Go.Proofs.Tryd.prog, D, Gt14, (fun _ _ => none), fun _ => []⟩
def annt12  : Nat → St → Option Ann := fun _ _ => some ⟨Nat, [1, 2], [0], fun i => [(3, .v (.int .i64) (i : Int))], fun i => [(1, some ⟨false, true, (.cons (.int .i64) (.last (.cons (.arr 8 (.int .i64)) (.last (.arr 8 (.arr 4 (.int .i64))))))), [(0, List.replicate 8 0, List.replicate i [1, 0, 1, 0] ++ List.replicate (8 - i) (List.replicate 4 0))]⟩)], fun i => i ≤ 8, fun i => 8 - i⟩
def outt12  : COut := ⟨[], .v .bool true, [], []⟩
def spt12 : Spec := fun args ins => match args, ins with
  | [], [] => some outt12
  | _, _ => none
def Gt12 := addG Gt14 12 spt12
def Pt12 : Prop :=
 ∃ (x:Nat),((0=0∧0=0∧0=(x:Int)∧(0:Int) :: List.replicate (nat_lit 15) (0:Int)=List.replicate 16 (0:Int)∧false=false∧(0:Int)=0∧List.replicate 8 (0:Int)=List.replicate 8 (0:Int)∧List.replicate 8 (List.replicate 4 (0:Int))=List.replicate
 x [(1:Int),(0:Int),(1:Int),(0:Int)] ++ List.replicate (8 - x) (List.replicate 4 (0:Int))∧false=false)∧x≤8)∧∀ (x:Nat),x≤8→(IntKind.min .i64≤(x:Int)∧(x:Int)≤IntKind.max .i64∧∀ (y:Int × List Int × List (List Int)),List.Mem y [((0:Int),List.replicate
 8 (0:Int),List.replicate x [(1:Int),(0:Int),(1:Int),(0:Int)] ++ List.replicate (8 - x) (List.replicate 4 (0:Int)))]→IntKind.min .i64≤y.1∧y.1≤IntKind.max .i64∧List.length y.2.1=8∧(∀ (y_1:Int),List.Mem y_1 y.2.1→IntKind.min .i64≤y_1∧y_1≤IntKind.max
 .i64)∧List.length y.2.2=8∧∀ (y_1:List Int),List.Mem y_1 y.2.2→List.length y_1=4∧∀ (y:Int),List.Mem y y_1→IntKind.min .i64≤y∧y≤IntKind.max .i64)→bif decide ((x:Int)<8) then ((0≤(x:Int)∧(x:Int)<(↑ (8:Nat):Int))∧(x:Int).toNat<8)∧∃ (y:Nat),(0=0∧0=0∧IntKind.wrap
 .i64 ((x:Int)+1)=(y:Int)∧(0:Int) :: List.replicate (nat_lit 15) (0:Int)=List.replicate 16 (0:Int)∧false=false∧(0:Int)=0∧List.replicate 8 (0:Int)=List.replicate 8 (0:Int)∧List.set (List.replicate x [(1:Int),(0:Int),(1:Int),(0:Int)] ++
 List.replicate (8 - x) (List.replicate 4 (0:Int))) (x:Int).toNat ((1:Int) :: List.set (List.set (List.set (List.replicate (nat_lit 3) (0:Int)) (nat_lit 0) (0:Int)) (nat_lit 1) (1:Int)) (nat_lit 2) (0:Int))=List.replicate y [(1:Int),(0:Int),(1:Int),(0:Int)]
 ++ List.replicate (8 - y) (List.replicate 4 (0:Int))∧false=false)∧y≤8∧8 - y<8 - x else (1:Nat)≤1000000∧(1:Nat)≤1000000∧∀ (b:Bool),decide ((askT (List.replicate 16 (0:Int)) (0:Int) ((putG (List.replicate 16 (0:Int)) (0:Int) (List.replicate
 8 (0:Int),List.replicate x [(1:Int),(0:Int),(1:Int),(0:Int)] ++ List.replicate (8 - x) (List.replicate 4 (0:Int))) {data := {toList := [(120:UInt8)]}}).1,(putG (List.replicate 16 (0:Int)) (0:Int) (List.replicate 8 (0:Int),List.replicate
 x [(1:Int),(0:Int),(1:Int),(0:Int)] ++ List.replicate (8 - x) (List.replicate 4 (0:Int))) {data := {toList := [(120:UInt8)]}}).2) (ownK (List.replicate 16 (0:Int)) (0:Int) ((putG (List.replicate 16 (0:Int)) (0:Int) (List.replicate 8
 (0:Int),List.replicate x [(1:Int),(0:Int),(1:Int),(0:Int)] ++ List.replicate (8 - x) (List.replicate 4 (0:Int))) {data := {toList := [(120:UInt8)]}}).1,(putG (List.replicate 16 (0:Int)) (0:Int) (List.replicate 8 (0:Int),List.replicate
 x [(1:Int),(0:Int),(1:Int),(0:Int)] ++ List.replicate (8 - x) (List.replicate 4 (0:Int))) {data := {toList := [(120:UInt8)]}}).2)) (aheadK (List.replicate 16 (0:Int)) {data := {toList := [(120:UInt8)]}})).2.2.1=0)=b→∀ (b_1:Bool),(bif
 b then decide ((askT (List.replicate 16 (0:Int)) (0:Int) ((putG (List.replicate 16 (0:Int)) (0:Int) (List.replicate 8 (0:Int),List.replicate x [(1:Int),(0:Int),(1:Int),(0:Int)] ++ List.replicate (8 - x) (List.replicate 4 (0:Int))) {data
 := {toList := [(120:UInt8)]}}).1,(putG (List.replicate 16 (0:Int)) (0:Int) (List.replicate 8 (0:Int),List.replicate x [(1:Int),(0:Int),(1:Int),(0:Int)] ++ List.replicate (8 - x) (List.replicate 4 (0:Int))) {data := {toList := [(120:UInt8)]}}).2)
 (ownK (List.replicate 16 (0:Int)) (0:Int) ((putG (List.replicate 16 (0:Int)) (0:Int) (List.replicate 8 (0:Int),List.replicate x [(1:Int),(0:Int),(1:Int),(0:Int)] ++ List.replicate (8 - x) (List.replicate 4 (0:Int))) {data := {toList
 := [(120:UInt8)]}}).1,(putG (List.replicate 16 (0:Int)) (0:Int) (List.replicate 8 (0:Int),List.replicate x [(1:Int),(0:Int),(1:Int),(0:Int)] ++ List.replicate (8 - x) (List.replicate 4 (0:Int))) {data := {toList := [(120:UInt8)]}}).2))
 (aheadK (List.replicate 16 (0:Int)) {data := {toList := [(120:UInt8)]}})).2.2.2=0) else false)=b_1→∀ (b_2:Bool),(bif b_1 then true else false)=b_2→((b=true→b=true)∧(b=true→b=true)∧(b=true→b=true)∧(b_1=true→(0:Int)≤0∧0<(↑ (7:Nat):Int))∧(b_1=true→b_1=true∧(0:Nat)<7)∧(b_1=true→(0:Int)≤1∧1<(↑
 (7:Nat):Int))∧(b_1=true→b_1=true∧(1:Nat)<7)∧(b_1=true→b_1=true∧b_1=true)∧(b_1=true→b_1=true)∧(b_2=true→(0:Int)≤6∧6<(↑ (7:Nat):Int))∧(b_2=true→b_2=true∧(6:Nat)<7)∧(b_2=true→(0:Int)≤5∧5<(↑ (7:Nat):Int))∧(b_2=true→b_2=true∧(5:Nat)<7)∧(b_2=true→b_2=true∧b_2=true)∧(b_2=true→b_2=true))∧(bif
 b_2 then true else false)=true
theorem vct12 : Pt12  = vcFun Ct12 (annt12 ) Go.Proofs.Tryd.f12 [] [] outt12 := by kernel_rfl

noncomputable def Ct3 : Ctx := ⟨Go.Proofs.Tryd.prog, D, Gt12, (fun _ _ => none), fun _ => []⟩
def annt3 (_k : List Int) (_f : Int) (_side _l : List Int) (_n : Int) (_a : ByteArray) : Nat → St → Option Ann := fun _ _ => none
def outt3 (_k : List Int) (_f : Int) (_side _l : List Int) (_n : Int) (_a : ByteArray) : COut := ⟨[], .v .bool true, [], []⟩
def spt3 : Spec := fun args ins => match args, ins with
  | [⟨.arr 16 (.int .u8), k⟩, ⟨.int .u16, f⟩, ⟨.arr 8 (.int .i64), side⟩, ⟨.arr 8 (.int .u32), l⟩, ⟨.int .u8, n⟩, ⟨.str, a⟩], [] => some (outt3 k f side l n a)
  | _, _ => none
def Gt3 := addG Gt12 3 spt3
def Pt3 (k : List Int) (f : Int) (side l : List Int) (n : Int) (a : ByteArray) : Prop :=
 ∀ (b:Bool),false=b→(((!b)=true→(!b)=true)∧((!b)=true→(!b)=true)∧(b=false→(!b)=true))∧bif bif b then true else decide (200<(↑ (ByteArray.size a):Int)) then true=true else ((13:Int)≠0∧12≤IntKind.wrap .i64 (12+Int.tmod (IntKind.wrap .i64
 n) (13:Int))∧IntKind.wrap .i64 (12+Int.tmod (IntKind.wrap .i64 n) (13:Int))≤24)∧ByteArray.size a≤1000000∧ByteArray.size a≤1000000∧ByteArray.size a≤1000000∧∀ (b:Bool),decide ((askT k (IntKind.wrap .i64 f) ((putG k (IntKind.wrap .i64
 f) ((shape19 side l (IntKind.wrap .i64 (12+Int.tmod (IntKind.wrap .i64 n) (13:Int)))).1,(shape19 side l (IntKind.wrap .i64 (12+Int.tmod (IntKind.wrap .i64 n) (13:Int)))).2) a).1,(putG k (IntKind.wrap .i64 f) ((shape19 side l (IntKind.wrap
 .i64 (12+Int.tmod (IntKind.wrap .i64 n) (13:Int)))).1,(shape19 side l (IntKind.wrap .i64 (12+Int.tmod (IntKind.wrap .i64 n) (13:Int)))).2) a).2) (ownK k (IntKind.wrap .i64 f) ((putG k (IntKind.wrap .i64 f) ((shape19 side l (IntKind.wrap
 .i64 (12+Int.tmod (IntKind.wrap .i64 n) (13:Int)))).1,(shape19 side l (IntKind.wrap .i64 (12+Int.tmod (IntKind.wrap .i64 n) (13:Int)))).2) a).1,(putG k (IntKind.wrap .i64 f) ((shape19 side l (IntKind.wrap .i64 (12+Int.tmod (IntKind.wrap
 .i64 n) (13:Int)))).1,(shape19 side l (IntKind.wrap .i64 (12+Int.tmod (IntKind.wrap .i64 n) (13:Int)))).2) a).2)) (aheadK k a)).2.2.1=0)=b→∀ (b_1:Bool),(bif b then decide ((askT k (IntKind.wrap .i64 f) ((putG k (IntKind.wrap .i64 f)
 ((shape19 side l (IntKind.wrap .i64 (12+Int.tmod (IntKind.wrap .i64 n) (13:Int)))).1,(shape19 side l (IntKind.wrap .i64 (12+Int.tmod (IntKind.wrap .i64 n) (13:Int)))).2) a).1,(putG k (IntKind.wrap .i64 f) ((shape19 side l (IntKind.wrap
 .i64 (12+Int.tmod (IntKind.wrap .i64 n) (13:Int)))).1,(shape19 side l (IntKind.wrap .i64 (12+Int.tmod (IntKind.wrap .i64 n) (13:Int)))).2) a).2) (ownK k (IntKind.wrap .i64 f) ((putG k (IntKind.wrap .i64 f) ((shape19 side l (IntKind.wrap
 .i64 (12+Int.tmod (IntKind.wrap .i64 n) (13:Int)))).1,(shape19 side l (IntKind.wrap .i64 (12+Int.tmod (IntKind.wrap .i64 n) (13:Int)))).2) a).1,(putG k (IntKind.wrap .i64 f) ((shape19 side l (IntKind.wrap .i64 (12+Int.tmod (IntKind.wrap
 .i64 n) (13:Int)))).1,(shape19 side l (IntKind.wrap .i64 (12+Int.tmod (IntKind.wrap .i64 n) (13:Int)))).2) a).2)) (aheadK k a)).2.2.2=0) else false)=b_1→∀ (b_2:Bool),(bif b_1 then decide ((askT k (IntKind.wrap .i64 f) ((putG k (IntKind.wrap
 .i64 f) ((shape19 side l (IntKind.wrap .i64 (12+Int.tmod (IntKind.wrap .i64 n) (13:Int)))).1,(shape19 side l (IntKind.wrap .i64 (12+Int.tmod (IntKind.wrap .i64 n) (13:Int)))).2) a).1,(putG k (IntKind.wrap .i64 f) ((shape19 side l (IntKind.wrap
 .i64 (12+Int.tmod (IntKind.wrap .i64 n) (13:Int)))).1,(shape19 side l (IntKind.wrap .i64 (12+Int.tmod (IntKind.wrap .i64 n) (13:Int)))).2) a).2) (ownK k (IntKind.wrap .i64 f) ((putG k (IntKind.wrap .i64 f) ((shape19 side l (IntKind.wrap
 .i64 (12+Int.tmod (IntKind.wrap .i64 n) (13:Int)))).1,(shape19 side l (IntKind.wrap .i64 (12+Int.tmod (IntKind.wrap .i64 n) (13:Int)))).2) a).1,(putG k (IntKind.wrap .i64 f) ((shape19 side l (IntKind.wrap .i64 (12+Int.tmod (IntKind.wrap
 .i64 n) (13:Int)))).1,(shape19 side l (IntKind.wrap .i64 (12+Int.tmod (IntKind.wrap .i64 n) (13:Int)))).2) a).2)) (aheadK k a)).1=(askT k (IntKind.wrap .i64 f) ((shape19 side l (IntKind.wrap .i64 (12+Int.tmod (IntKind.wrap .i64 n) (13:Int)))).1,(shape19
 side l (IntKind.wrap .i64 (12+Int.tmod (IntKind.wrap .i64 n) (13:Int)))).2) (ownK k (IntKind.wrap .i64 f) ((shape19 side l (IntKind.wrap .i64 (12+Int.tmod (IntKind.wrap .i64 n) (13:Int)))).1,(shape19 side l (IntKind.wrap .i64 (12+Int.tmod
 (IntKind.wrap .i64 n) (13:Int)))).2)) (aheadK k a)).1) else false)=b_2→∀ (b_3:Bool),(bif b_2 then decide ((askT k (IntKind.wrap .i64 f) ((putG k (IntKind.wrap .i64 f) ((shape19 side l (IntKind.wrap .i64 (12+Int.tmod (IntKind.wrap .i64
 n) (13:Int)))).1,(shape19 side l (IntKind.wrap .i64 (12+Int.tmod (IntKind.wrap .i64 n) (13:Int)))).2) a).1,(putG k (IntKind.wrap .i64 f) ((shape19 side l (IntKind.wrap .i64 (12+Int.tmod (IntKind.wrap .i64 n) (13:Int)))).1,(shape19 side
 l (IntKind.wrap .i64 (12+Int.tmod (IntKind.wrap .i64 n) (13:Int)))).2) a).2) (ownK k (IntKind.wrap .i64 f) ((putG k (IntKind.wrap .i64 f) ((shape19 side l (IntKind.wrap .i64 (12+Int.tmod (IntKind.wrap .i64 n) (13:Int)))).1,(shape19
 side l (IntKind.wrap .i64 (12+Int.tmod (IntKind.wrap .i64 n) (13:Int)))).2) a).1,(putG k (IntKind.wrap .i64 f) ((shape19 side l (IntKind.wrap .i64 (12+Int.tmod (IntKind.wrap .i64 n) (13:Int)))).1,(shape19 side l (IntKind.wrap .i64 (12+Int.tmod
 (IntKind.wrap .i64 n) (13:Int)))).2) a).2)) (aheadK k a)).2.1=(askT k (IntKind.wrap .i64 f) ((shape19 side l (IntKind.wrap .i64 (12+Int.tmod (IntKind.wrap .i64 n) (13:Int)))).1,(shape19 side l (IntKind.wrap .i64 (12+Int.tmod (IntKind.wrap
 .i64 n) (13:Int)))).2) (ownK k (IntKind.wrap .i64 f) ((shape19 side l (IntKind.wrap .i64 (12+Int.tmod (IntKind.wrap .i64 n) (13:Int)))).1,(shape19 side l (IntKind.wrap .i64 (12+Int.tmod (IntKind.wrap .i64 n) (13:Int)))).2)) (aheadK
 k a)).2.1) else false)=b_3→∀ (b_4:Bool),(bif b_3 then decide ((askT k (IntKind.wrap .i64 f) ((putG k (IntKind.wrap .i64 f) ((shape19 side l (IntKind.wrap .i64 (12+Int.tmod (IntKind.wrap .i64 n) (13:Int)))).1,(shape19 side l (IntKind.wrap
 .i64 (12+Int.tmod (IntKind.wrap .i64 n) (13:Int)))).2) a).1,(putG k (IntKind.wrap .i64 f) ((shape19 side l (IntKind.wrap .i64 (12+Int.tmod (IntKind.wrap .i64 n) (13:Int)))).1,(shape19 side l (IntKind.wrap .i64 (12+Int.tmod (IntKind.wrap
 .i64 n) (13:Int)))).2) a).2) (ownK k (IntKind.wrap .i64 f) ((putG k (IntKind.wrap .i64 f) ((shape19 side l (IntKind.wrap .i64 (12+Int.tmod (IntKind.wrap .i64 n) (13:Int)))).1,(shape19 side l (IntKind.wrap .i64 (12+Int.tmod (IntKind.wrap
 .i64 n) (13:Int)))).2) a).1,(putG k (IntKind.wrap .i64 f) ((shape19 side l (IntKind.wrap .i64 (12+Int.tmod (IntKind.wrap .i64 n) (13:Int)))).1,(shape19 side l (IntKind.wrap .i64 (12+Int.tmod (IntKind.wrap .i64 n) (13:Int)))).2) a).2))
 (aheadK k a)).1≤3) else false)=b_4→((b=true→b=true)∧(b=true→b=true)∧(b=true→b=true)∧(b_1=true→b_1=true)∧(b_1=true→b_1=true)∧(b_1=true→b_1=true∧b_1=true)∧(b_1=true→b_1=true)∧(b_2=true→b_2=true)∧(b_2=true→b_2=true)∧(b_2=true→b_2=true∧b_2=true)∧(b_2=true→b_2=true)∧(b_3=true→b_3=true)∧(b_3=true→b_3=true)∧(b_3=true→b_3=true)∧(b_4=true→b_4=true)∧(b_4=true→b_4=true)∧(b_4=true→b_4=true))∧(bif
 b_4 then decide ((askT k (IntKind.wrap .i64 f) ((putG k (IntKind.wrap .i64 f) ((shape19 side l (IntKind.wrap .i64 (12+Int.tmod (IntKind.wrap .i64 n) (13:Int)))).1,(shape19 side l (IntKind.wrap .i64 (12+Int.tmod (IntKind.wrap .i64 n)
 (13:Int)))).2) a).1,(putG k (IntKind.wrap .i64 f) ((shape19 side l (IntKind.wrap .i64 (12+Int.tmod (IntKind.wrap .i64 n) (13:Int)))).1,(shape19 side l (IntKind.wrap .i64 (12+Int.tmod (IntKind.wrap .i64 n) (13:Int)))).2) a).2) (ownK
 k (IntKind.wrap .i64 f) ((putG k (IntKind.wrap .i64 f) ((shape19 side l (IntKind.wrap .i64 (12+Int.tmod (IntKind.wrap .i64 n) (13:Int)))).1,(shape19 side l (IntKind.wrap .i64 (12+Int.tmod (IntKind.wrap .i64 n) (13:Int)))).2) a).1,(putG
 k (IntKind.wrap .i64 f) ((shape19 side l (IntKind.wrap .i64 (12+Int.tmod (IntKind.wrap .i64 n) (13:Int)))).1,(shape19 side l (IntKind.wrap .i64 (12+Int.tmod (IntKind.wrap .i64 n) (13:Int)))).2) a).2)) (aheadK k a)).2.1≤3) else false)=true
theorem vct3 (k : List Int) (f : Int) (side l : List Int) (n : Int) (a : ByteArray) : Pt3 k f side l n a = vcFun Ct3 (annt3 k f side l n a) Go.Proofs.Tryd.f3 [⟨.arr 16 (.int .u8), k⟩, ⟨.int .u16, f⟩, ⟨.arr 8 (.int .i64), side⟩, ⟨.arr 8 (.int .u32), l⟩, ⟨.int .u8, n⟩, ⟨.str, a⟩] [] (outt3 k f side l n a) := by kernel_rfl

noncomputable def Ct4 : Ctx := ⟨Go.Proofs.Tryd.prog, D, Gt3, (fun _ _ => none), fun _ => []⟩
def annt4 (k : List Int) (_f : Int) (_side _l _m : List Int) (_n : Int) : Nat → St → Option Ann := fun _ S => some ⟨Nat, [1, 6, 13, 14, 15, 16, 17], [0, 5, 6], fun i => [(18, .v (.int .i64) (i : Int))], fun i => [(4, some ⟨false, true, (.cons (.int .i64) (.last (.cons (.arr 8 (.int .i64)) (.last (.arr 8 (.arr 4 (.int .i64))))))), [((S.x 4 (.cons (.int .i64) (.last (.cons (.arr 8 (.int .i64)) (.last (.arr 8 (.arr 4 (.int .i64)))))))).1, (S.x 4 (.cons (.int .i64) (.last (.cons (.arr 8 (.int .i64)) (.last (.arr 8 (.arr 4 (.int .i64)))))))).2.1, mixR (bandsK k (S.x 4 (.cons (.int .i64) (.last (.cons (.arr 8 (.int .i64)) (.last (.arr 8 (.arr 4 (.int .i64)))))))).1) (S.x 4 (.cons (.int .i64) (.last (.cons (.arr 8 (.int .i64)) (.last (.arr 8 (.arr 4 (.int .i64)))))))).2.2 (S.x 5 (.cons (.int .i64) (.last (.cons (.arr 8 (.int .i64)) (.last (.arr 8 (.arr 4 (.int .i64)))))))).2.2 i)]⟩)], fun i => i ≤ 6, fun i => 6 - i⟩
def outt4 (_k : List Int) (_f : Int) (_side _l _m : List Int) (_n : Int) : COut := ⟨[], .v .bool true, [], []⟩
def spt4 : Spec := fun args ins => match args, ins with
  | [⟨.arr 16 (.int .u8), k⟩, ⟨.int .u16, f⟩, ⟨.arr 8 (.int .i64), side⟩, ⟨.arr 8 (.int .u32), l⟩, ⟨.arr 8 (.int .u32), m⟩, ⟨.int .u8, n⟩], [] => some (outt4 k f side l m n)
  | _, _ => none
def Gt4 := addG Gt3 4 spt4
def Pt4 (k : List Int) (f : Int) (side l m : List Int) (n : Int) : Prop :=
 (13:Int)≠0∧(12≤IntKind.wrap .i64 (12+Int.tmod (IntKind.wrap .i64 n) (13:Int))∧IntKind.wrap .i64 (12+Int.tmod (IntKind.wrap .i64 n) (13:Int))≤24)∧(12≤IntKind.wrap .i64 (12+Int.tmod (IntKind.wrap .i64 n) (13:Int))∧IntKind.wrap .i64 (12+Int.tmod
 (IntKind.wrap .i64 n) (13:Int))≤24)∧∃ (x:Nat),((f=f∧0=0∧IntKind.wrap .i64 (12+Int.tmod (IntKind.wrap .i64 n) (13:Int))=IntKind.wrap .i64 (12+Int.tmod (IntKind.wrap .i64 n) (13:Int))∧0=0∧0=0∧0=0∧ownK k (IntKind.wrap .i64 f) ((shape19
 side l (IntKind.wrap .i64 (12+Int.tmod (IntKind.wrap .i64 n) (13:Int)))).1,(shape19 side l (IntKind.wrap .i64 (12+Int.tmod (IntKind.wrap .i64 n) (13:Int)))).2)=ownK k (IntKind.wrap .i64 f) ((shape19 side l (IntKind.wrap .i64 (12+Int.tmod
 (IntKind.wrap .i64 n) (13:Int)))).1,(shape19 side l (IntKind.wrap .i64 (12+Int.tmod (IntKind.wrap .i64 n) (13:Int)))).2)∧0=(x:Int)∧k=k∧false=false∧IntKind.wrap .i64 f=IntKind.wrap .i64 f∧(shape19 side l (IntKind.wrap .i64 (12+Int.tmod
 (IntKind.wrap .i64 n) (13:Int)))).1=(shape19 side l (IntKind.wrap .i64 (12+Int.tmod (IntKind.wrap .i64 n) (13:Int)))).1∧(shape19 side l (IntKind.wrap .i64 (12+Int.tmod (IntKind.wrap .i64 n) (13:Int)))).2=mixR (bandsK k (IntKind.wrap
 .i64 f)) (shape19 side l (IntKind.wrap .i64 (12+Int.tmod (IntKind.wrap .i64 n) (13:Int)))).2 (shape19 side m (IntKind.wrap .i64 (12+Int.tmod (IntKind.wrap .i64 n) (13:Int)))).2 x∧false=false∧IntKind.wrap .i64 f=IntKind.wrap .i64 f∧(shape19
 side m (IntKind.wrap .i64 (12+Int.tmod (IntKind.wrap .i64 n) (13:Int)))).1=(shape19 side m (IntKind.wrap .i64 (12+Int.tmod (IntKind.wrap .i64 n) (13:Int)))).1∧(shape19 side m (IntKind.wrap .i64 (12+Int.tmod (IntKind.wrap .i64 n) (13:Int)))).2=(shape19
 side m (IntKind.wrap .i64 (12+Int.tmod (IntKind.wrap .i64 n) (13:Int)))).2∧false=false∧bandsK k (IntKind.wrap .i64 f)=bandsK k (IntKind.wrap .i64 f)∧false=false)∧x≤6)∧∀ (x:Nat),x≤6→(IntKind.min .i64≤(x:Int)∧(x:Int)≤IntKind.max .i64∧∀
 (y:Int × List Int × List (List Int)),List.Mem y [(IntKind.wrap .i64 f,(shape19 side l (IntKind.wrap .i64 (12+Int.tmod (IntKind.wrap .i64 n) (13:Int)))).1,mixR (bandsK k (IntKind.wrap .i64 f)) (shape19 side l (IntKind.wrap .i64 (12+Int.tmod
 (IntKind.wrap .i64 n) (13:Int)))).2 (shape19 side m (IntKind.wrap .i64 (12+Int.tmod (IntKind.wrap .i64 n) (13:Int)))).2 x)]→IntKind.min .i64≤y.1∧y.1≤IntKind.max .i64∧List.length y.2.1=8∧(∀ (y_1:Int),List.Mem y_1 y.2.1→IntKind.min .i64≤y_1∧y_1≤IntKind.max
 .i64)∧List.length y.2.2=8∧∀ (y_1:List Int),List.Mem y_1 y.2.2→List.length y_1=4∧∀ (y:Int),List.Mem y y_1→IntKind.min .i64≤y∧y≤IntKind.max .i64)→bif decide ((x:Int)<6) then ((0≤(x:Int)∧(x:Int)<(↑ (7:Nat):Int))∧(x:Int).toNat<7∧(0≤(x:Int)∧(x:Int)<(↑
 (7:Nat):Int))∧(x:Int).toNat<7∧(0≤iand .i64 (List.getD (bandsK k (IntKind.wrap .i64 f)) (x:Int).toNat (0:Int)) (7:Int)∧iand .i64 (List.getD (bandsK k (IntKind.wrap .i64 f)) (x:Int).toNat (0:Int)) (7:Int)<(↑ (8:Nat):Int))∧(iand .i64 (List.getD
 (bandsK k (IntKind.wrap .i64 f)) (x:Int).toNat (0:Int)) (7:Int)).toNat<8∧(0≤iand .i64 (List.getD (bandsK k (IntKind.wrap .i64 f)) (x:Int).toNat (0:Int)) (7:Int)∧iand .i64 (List.getD (bandsK k (IntKind.wrap .i64 f)) (x:Int).toNat (0:Int))
 (7:Int)<(↑ (8:Nat):Int))∧(iand .i64 (List.getD (bandsK k (IntKind.wrap .i64 f)) (x:Int).toNat (0:Int)) (7:Int)).toNat<8)∧∃ (y:Nat),(f=f∧0=0∧IntKind.wrap .i64 (12+Int.tmod (IntKind.wrap .i64 n) (13:Int))=IntKind.wrap .i64 (12+Int.tmod
 (IntKind.wrap .i64 n) (13:Int))∧0=0∧0=0∧0=0∧ownK k (IntKind.wrap .i64 f) ((shape19 side l (IntKind.wrap .i64 (12+Int.tmod (IntKind.wrap .i64 n) (13:Int)))).1,(shape19 side l (IntKind.wrap .i64 (12+Int.tmod (IntKind.wrap .i64 n) (13:Int)))).2)=ownK
 k (IntKind.wrap .i64 f) ((shape19 side l (IntKind.wrap .i64 (12+Int.tmod (IntKind.wrap .i64 n) (13:Int)))).1,(shape19 side l (IntKind.wrap .i64 (12+Int.tmod (IntKind.wrap .i64 n) (13:Int)))).2)∧IntKind.wrap .i64 ((x:Int)+1)=(y:Int)∧k=k∧false=false∧IntKind.wrap
 .i64 f=IntKind.wrap .i64 f∧(shape19 side l (IntKind.wrap .i64 (12+Int.tmod (IntKind.wrap .i64 n) (13:Int)))).1=(shape19 side l (IntKind.wrap .i64 (12+Int.tmod (IntKind.wrap .i64 n) (13:Int)))).1∧List.set (mixR (bandsK k (IntKind.wrap
 .i64 f)) (shape19 side l (IntKind.wrap .i64 (12+Int.tmod (IntKind.wrap .i64 n) (13:Int)))).2 (shape19 side m (IntKind.wrap .i64 (12+Int.tmod (IntKind.wrap .i64 n) (13:Int)))).2 x) (iand .i64 (List.getD (bandsK k (IntKind.wrap .i64 f))
 (x:Int).toNat (0:Int)) (7:Int)).toNat (List.getD (shape19 side m (IntKind.wrap .i64 (12+Int.tmod (IntKind.wrap .i64 n) (13:Int)))).2 (iand .i64 (List.getD (bandsK k (IntKind.wrap .i64 f)) (x:Int).toNat (0:Int)) (7:Int)).toNat (List.replicate
 4 (0:Int)))=mixR (bandsK k (IntKind.wrap .i64 f)) (shape19 side l (IntKind.wrap .i64 (12+Int.tmod (IntKind.wrap .i64 n) (13:Int)))).2 (shape19 side m (IntKind.wrap .i64 (12+Int.tmod (IntKind.wrap .i64 n) (13:Int)))).2 y∧false=false∧IntKind.wrap
 .i64 f=IntKind.wrap .i64 f∧(shape19 side m (IntKind.wrap .i64 (12+Int.tmod (IntKind.wrap .i64 n) (13:Int)))).1=(shape19 side m (IntKind.wrap .i64 (12+Int.tmod (IntKind.wrap .i64 n) (13:Int)))).1∧(shape19 side m (IntKind.wrap .i64 (12+Int.tmod
 (IntKind.wrap .i64 n) (13:Int)))).2=(shape19 side m (IntKind.wrap .i64 (12+Int.tmod (IntKind.wrap .i64 n) (13:Int)))).2∧false=false∧bandsK k (IntKind.wrap .i64 f)=bandsK k (IntKind.wrap .i64 f)∧false=false)∧y≤6∧6 - y<6 - x else ((0≤bandK
 k (IntKind.wrap .i64 f)∧bandK k (IntKind.wrap .i64 f)<(↑ (8:Nat):Int))∧(bandK k (IntKind.wrap .i64 f)).toNat<8∧(0≤bandK k (IntKind.wrap .i64 f)∧bandK k (IntKind.wrap .i64 f)<(↑ (8:Nat):Int))∧(bandK k (IntKind.wrap .i64 f)).toNat<8)∧(((0:Int)≤6∧6<(↑
 (7:Nat):Int))∧(6:Nat)<7∧((0:Int)≤6∧6<(↑ (7:Nat):Int))∧(6:Nat)<7∧(0≤iand .i64 (List.getD (bandsK k (IntKind.wrap .i64 f)) (6:Nat) (0:Int)) (7:Int)∧iand .i64 (List.getD (bandsK k (IntKind.wrap .i64 f)) (6:Nat) (0:Int)) (7:Int)<(↑ (8:Nat):Int))∧(iand
 .i64 (List.getD (bandsK k (IntKind.wrap .i64 f)) (6:Nat) (0:Int)) (7:Int)).toNat<8∧(0≤iand .i64 (List.getD (bandsK k (IntKind.wrap .i64 f)) (6:Nat) (0:Int)) (7:Int)∧iand .i64 (List.getD (bandsK k (IntKind.wrap .i64 f)) (6:Nat) (0:Int))
 (7:Int)<(↑ (8:Nat):Int))∧(iand .i64 (List.getD (bandsK k (IntKind.wrap .i64 f)) (6:Nat) (0:Int)) (7:Int)).toNat<8)∧∀ (b:Bool),decide (ownK k (IntKind.wrap .i64 f) ((shape19 side l (IntKind.wrap .i64 (12+Int.tmod (IntKind.wrap .i64 n)
 (13:Int)))).1,mixR (bandsK k (IntKind.wrap .i64 f)) (shape19 side l (IntKind.wrap .i64 (12+Int.tmod (IntKind.wrap .i64 n) (13:Int)))).2 (shape19 side m (IntKind.wrap .i64 (12+Int.tmod (IntKind.wrap .i64 n) (13:Int)))).2 x)=ownK k (IntKind.wrap
 .i64 f) ((shape19 side l (IntKind.wrap .i64 (12+Int.tmod (IntKind.wrap .i64 n) (13:Int)))).1,(shape19 side l (IntKind.wrap .i64 (12+Int.tmod (IntKind.wrap .i64 n) (13:Int)))).2))=b→∀ (b_1:Bool),(bif b then Ty.eqb (Ty.cons (Ty.int .i64)
 (Ty.last (Ty.cons (Ty.arr (8:Nat) (Ty.int .i64)) (Ty.last (Ty.arr (8:Nat) (Ty.arr (4:Nat) (Ty.int .i64))))))) (IntKind.wrap .i64 f,(shape19 side l (IntKind.wrap .i64 (12+Int.tmod (IntKind.wrap .i64 n) (13:Int)))).1,List.set (List.set
 (mixR (bandsK k (IntKind.wrap .i64 f)) (shape19 side l (IntKind.wrap .i64 (12+Int.tmod (IntKind.wrap .i64 n) (13:Int)))).2 (shape19 side m (IntKind.wrap .i64 (12+Int.tmod (IntKind.wrap .i64 n) (13:Int)))).2 x) (bandK k (IntKind.wrap
 .i64 f)).toNat (List.getD (shape19 side m (IntKind.wrap .i64 (12+Int.tmod (IntKind.wrap .i64 n) (13:Int)))).2 (bandK k (IntKind.wrap .i64 f)).toNat (List.replicate 4 (0:Int)))) (iand .i64 (List.getD (bandsK k (IntKind.wrap .i64 f))
 (6:Nat) (0:Int)) (7:Int)).toNat (List.getD (shape19 side m (IntKind.wrap .i64 (12+Int.tmod (IntKind.wrap .i64 n) (13:Int)))).2 (iand .i64 (List.getD (bandsK k (IntKind.wrap .i64 f)) (6:Nat) (0:Int)) (7:Int)).toNat (List.replicate 4
 (0:Int)))) (IntKind.wrap .i64 f,(shape19 side m (IntKind.wrap .i64 (12+Int.tmod (IntKind.wrap .i64 n) (13:Int)))).1,(shape19 side m (IntKind.wrap .i64 (12+Int.tmod (IntKind.wrap .i64 n) (13:Int)))).2) else false)=b_1→∀ (b_2:Bool),(bif
 b_1 then decide (0≤ownK k (IntKind.wrap .i64 f) ((shape19 side l (IntKind.wrap .i64 (12+Int.tmod (IntKind.wrap .i64 n) (13:Int)))).1,(shape19 side l (IntKind.wrap .i64 (12+Int.tmod (IntKind.wrap .i64 n) (13:Int)))).2)) else false)=b_2→((b=true→b=true∧b=true)∧(b=true→b=true)∧(b_1=true→b_1=true)∧(b_1=true→b_1=true)∧(b_2=true→b_2=true)∧(b_2=true→b_2=true))∧(bif
 b_2 then decide (ownK k (IntKind.wrap .i64 f) ((shape19 side l (IntKind.wrap .i64 (12+Int.tmod (IntKind.wrap .i64 n) (13:Int)))).1,(shape19 side l (IntKind.wrap .i64 (12+Int.tmod (IntKind.wrap .i64 n) (13:Int)))).2)≤7) else false)=true
theorem vct4 (k : List Int) (f : Int) (side l m : List Int) (n : Int) : Pt4 k f side l m n = vcFun Ct4 (annt4 k f side l m n) Go.Proofs.Tryd.f4 [⟨.arr 16 (.int .u8), k⟩, ⟨.int .u16, f⟩, ⟨.arr 8 (.int .i64), side⟩, ⟨.arr 8 (.int .u32), l⟩, ⟨.arr 8 (.int .u32), m⟩, ⟨.int .u8, n⟩] [] (outt4 k f side l m n) := by kernel_rfl

end
end Go.SL.A

/- Statements about tags: the code as plain conditions holds. -/
namespace Go.SL.A
open Go Go.SL Go.SL.S
set_option maxRecDepth 100000

theorem up3 (F : Nat → Int) (a : Nat) : upSum F a 3 = F a + F (a + 1) + F (a + 2) := by
  rw [upSum, upSum, upSum, upSum]
  have e : a + 0 = a := rfl
  rw [e]; omega
/-- What was put in tells right. -/
theorem tell_all {k : List Int} {f : Int} {s : SHM} (R : Rt s) (a : ByteArray) : ∃ u v : Int, askT k f (putG k f s a) (ownK k f (putG k f s a)) (aheadK k a) = (u, v, 0, 0) ∧
    (∀ own back, (askT k f s own back).1 = u ∧ (askT k f s own back).2.1 = v) ∧ (0 ≤ u ∧ u ≤ 3) ∧ 0 ≤ v ∧ v ≤ 3 := by
  have T := fun i hi => told_ok (k := k) (f := f) R a (i := i) hi
  have hc : ∀ n, 0 ≤ canN k f s n ∧ canN k f s n ≤ 1 := fun n => by unfold canN; split <;> omega
  refine ⟨upSum (canN k f s) 0 3, upSum (canN k f s) 3 3, ?_, fun own back => ⟨rfl, rfl⟩, ?_, ?_⟩
  · unfold askT
    rw [up3, up3, up3, up3, up3, up3, (T 0 (by omega)).1, (T (0 + 1) (by omega)).1, (T (0 + 2) (by omega)).1, (T 3 (by omega)).1, (T (3 + 1) (by omega)).1, (T (3 + 2) (by omega)).1, (T 0 (by omega)).2, (T (0 + 1) (by omega)).2, (T (0 + 2) (by omega)).2, (T 3 (by omega)).2, (T (3 + 1) (by omega)).2, (T (3 + 2) (by omega)).2]
    rfl
  · exact up_fit hc 0 3
  · exact up_fit hc 3 3
theorem awake_row (i : Nat) (hi : i < 8) : List.set (List.replicate i [(1 : Int), 0, 1, 0] ++ List.replicate (8 - i) (List.replicate 4 0)) i [1, 0, 1, 0] = List.replicate (i + 1) [1, 0, 1, 0] ++ List.replicate (8 - (i + 1)) (List.replicate 4 0) := by
  have h : ∀ i : Fin 8, List.set (List.replicate i.val [(1 : Int), 0, 1, 0] ++ List.replicate (8 - i.val) (List.replicate 4 0)) i.val [1, 0, 1, 0] = List.replicate (i.val + 1) [1, 0, 1, 0] ++ List.replicate (8 - (i.val + 1)) (List.replicate 4 0) := by decide
  exact h ⟨i, hi⟩
theorem awake_rt : Rt (List.replicate 8 0, List.replicate 8 [1, 0, 1, 0] ++ List.replicate (8 - 8) (List.replicate 4 0)) :=
  rt_of (by decide) (by decide) (by decide) (by decide +kernel)
theorem fin_true {u v : Int} {p : Int × Int × Int × Int} (hp : p = (u, v, 0, 0)) (X : Prop) (hX : X) : decide (p.2.2.1 = 0) = true ∧ decide (p.2.2.2 = 0) = true ∧ X := by
  subst hp; exact ⟨rfl, rfl, hX⟩
theorem puret12 : Pt12 := by
  unfold Pt12
  have es : ∀ x : SHM, (x.1, x.2) = x := fun _ => rfl
  simp only [eq_self, true_and, and_true, Int.toNat_natCast, es]
  refine ⟨0, ⟨⟨rfl, rfl, rfl⟩, by omega⟩, fun i hi hw => ?_⟩
  clear hw
  by_cases h : (i : Int) < 8
  · rw [decide_eq_true h, cond_true]
    refine ⟨⟨⟨by omega, by omega⟩, by omega⟩, i + 1, ⟨step_i (by omega), rfl, ?_⟩, by omega, by omega⟩
    exact awake_row i (by omega)
  · have : i = 8 := by omega
    subst this
    rw [decide_eq_false h, cond_false]
    obtain ⟨u, v, hT, -⟩ := tell_all (k := List.replicate 16 0) (f := 0) awake_rt ({ data := { toList := [(120 : UInt8)] } })
    obtain ⟨d1, d2, -⟩ := fin_true hT True trivial
    refine ⟨by omega, by omega, ?_⟩
    rw [d1, d2]
    rintro b rfl b1 rfl b2 rfl
    simp
theorem hwt3 {k side l : List Int} {f n : Int} {a : ByteArray} (hw : Go.SL.allP (List.flatMap (fun a : AV => a.t.wf a.x) [⟨.arr 16 (.int .u8), k⟩, ⟨.int .u16, f⟩, ⟨.arr 8 (.int .i64), side⟩, ⟨.arr 8 (.int .u32), l⟩, ⟨.int .u8, n⟩, ⟨.str, a⟩] ++ List.flatMap Blk.wf [])) : (0 ≤ f ∧ f ≤ 65535) ∧ side.length = 8 ∧ (∀ x ∈ l, 0 ≤ x ∧ x ≤ 4294967295) ∧ 0 ≤ n ∧ n ≤ 255 := by
  simp only [List.flatMap_cons, List.flatMap_nil, Ty.wf, List.append_nil, List.cons_append, List.nil_append, Go.SL.allP] at hw
  obtain ⟨-, -, f1, f2, s1, -, -, l2, n1, n2, -⟩ := hw
  have e1 : IntKind.u32.min = 0 := by decide
  have e2 : IntKind.u32.max = 4294967295 := by decide
  have e3 : IntKind.u8.min = 0 := by decide
  have e4 : IntKind.u8.max = 255 := by decide
  have e5 : IntKind.u16.min = 0 := by decide
  have e6 : IntKind.u16.max = 65535 := by decide
  rw [e3] at n1; rw [e4] at n2; rw [e5] at f1; rw [e6] at f2
  exact ⟨⟨f1, f2⟩, s1, fun x hx => by have := l2 x hx; rw [e1, e2] at this; exact this, n1, n2⟩
theorem puret3 (k : List Int) (f : Int) (side l : List Int) (n : Int) (a : ByteArray) (hw : (0 ≤ f ∧ f ≤ 65535) ∧ side.length = 8 ∧ (∀ x ∈ l, 0 ≤ x ∧ x ≤ 4294967295) ∧ 0 ≤ n ∧ n ≤ 255) : Pt3 k f side l n a := by
  obtain ⟨hf, hs, hl, hn⟩ := hw
  obtain ⟨e1, n1, n2⟩ := size_fit hn
  unfold Pt3
  have es : ∀ x : SHM, (x.1, x.2) = x := fun _ => rfl
  simp only [e1, w64 (n := f) (by omega) (by omega), es]
  have R := shape_rt hs hl ⟨n1, n2⟩
  generalize shape19 side l (12 + Int.tmod n 13) = s at *
  rintro b rfl
  refine ⟨by simp, ?_⟩
  rw [cond_false]
  by_cases c : (200 : Int) < (ByteArray.size a : Int)
  · rw [decide_eq_true c, cond_true]; trivial
  · rw [decide_eq_false c, cond_false]
    obtain ⟨u, v, hT, hu, hu3, hv3⟩ := tell_all (k := k) (f := f) R a
    obtain ⟨h1, h2⟩ := hu (ownK k f s) (aheadK k a)
    refine ⟨⟨by decide, n1, n2⟩, by omega, by omega, by omega, ?_⟩
    rw [hT, h1, h2]
    dsimp only
    rw [decide_eq_true (show u = u from rfl), decide_eq_true (show v = v from rfl), decide_eq_true hu3.2, decide_eq_true hv3.2]
    rintro b rfl b1 rfl b2 rfl b3 rfl b4 rfl
    simp
theorem iand7i {b : Int} (hb : 0 ≤ b ∧ b < 8) : iand .i64 b 7 = b := by
  unfold iand
  have := and_num b 3 (by decide)
  have e7 : ((2 ^ 3 - 1 : Nat) : Int) = 7 := by decide
  rw [e7] at this
  show IntKind.i64.wrap ((BitVec.ofInt 64 b &&& BitVec.ofInt 64 7).toNat : Int) = _
  rw [this]
  have e8 : (2 : Nat) ^ 3 = 8 := by decide
  rw [e8]
  have : ((b % 18446744073709551616).toNat % 8 : Nat) < 8 := Nat.mod_lt _ (by omega)
  rw [w64 (by omega) (by omega)]
  omega
theorem eqbPk (x y : Int × List Int × List (List Int)) (h : x = y) : Ty.eqb (.cons (.int .i64) (.last (.cons (.arr 8 (.int .i64)) (.last (.arr 8 (.arr 4 (.int .i64))))))) x y = true := by
  subst h; simp [Ty.eqb]
theorem hwt4 {k side l m : List Int} {f n : Int} (hw : Go.SL.allP (List.flatMap (fun a : AV => a.t.wf a.x) [⟨.arr 16 (.int .u8), k⟩, ⟨.int .u16, f⟩, ⟨.arr 8 (.int .i64), side⟩, ⟨.arr 8 (.int .u32), l⟩, ⟨.arr 8 (.int .u32), m⟩, ⟨.int .u8, n⟩] ++ List.flatMap Blk.wf [])) : (0 ≤ f ∧ f ≤ 65535) ∧ side.length = 8 ∧ (∀ x ∈ l, 0 ≤ x ∧ x ≤ 4294967295) ∧ (∀ x ∈ m, 0 ≤ x ∧ x ≤ 4294967295) ∧ 0 ≤ n ∧ n ≤ 255 := by
  simp only [List.flatMap_cons, List.flatMap_nil, Ty.wf, List.append_nil, List.cons_append, List.nil_append, Go.SL.allP] at hw
  obtain ⟨-, -, f1, f2, s1, -, -, l2, -, m2, n1, n2⟩ := hw
  have e1 : IntKind.u32.min = 0 := by decide
  have e2 : IntKind.u32.max = 4294967295 := by decide
  have e3 : IntKind.u8.min = 0 := by decide
  have e4 : IntKind.u8.max = 255 := by decide
  have e5 : IntKind.u16.min = 0 := by decide
  have e6 : IntKind.u16.max = 65535 := by decide
  rw [e3] at n1; rw [e4] at n2; rw [e5] at f1; rw [e6] at f2
  exact ⟨⟨f1, f2⟩, s1, fun x hx => by have := l2 x hx; rw [e1, e2] at this; exact this, fun x hx => by have := m2 x hx; rw [e1, e2] at this; exact this, n1, n2⟩
theorem puret4 (k : List Int) (f : Int) (side l m : List Int) (n : Int) (hw : (0 ≤ f ∧ f ≤ 65535) ∧ side.length = 8 ∧ (∀ x ∈ l, 0 ≤ x ∧ x ≤ 4294967295) ∧ (∀ x ∈ m, 0 ≤ x ∧ x ≤ 4294967295) ∧ 0 ≤ n ∧ n ≤ 255) : Pt4 k f side l m n := by
  obtain ⟨hf, hs, hl, hm, hn⟩ := hw
  obtain ⟨e1, n1, n2⟩ := size_fit hn
  unfold Pt4
  have es : ∀ x : SHM, (x.1, x.2) = x := fun _ => rfl
  simp only [e1, w64 (n := f) (by omega) (by omega), es, eq_self, true_and, and_true, Int.toNat_natCast]
  have R := shape_rt hs hl ⟨n1, n2⟩
  have Q := shape_rt hs hm ⟨n1, n2⟩
  have hst : (shape19 side m (12 + Int.tmod n 13)).1 = (shape19 side l (12 + Int.tmod n 13)).1 := rfl
  generalize shape19 side l (12 + Int.tmod n 13) = s at *
  generalize shape19 side m (12 + Int.tmod n 13) = t at *
  have tn : ∀ b : Int, 0 ≤ b ∧ b < 8 → b.toNat < 8 := fun b h => by omega
  refine ⟨by decide, ⟨n1, n2⟩, ⟨n1, n2⟩, 0, ⟨⟨rfl, rfl⟩, by omega⟩, fun i hi hw => ?_⟩
  clear hw
  by_cases h : (i : Int) < 6
  · have i7 : (0 : Int) ≤ (i : Int) ∧ (i : Int) < ((7 : Nat) : Int) := ⟨by omega, by omega⟩
    have i7' : i < 7 := by omega
    have i6 : i + 1 ≤ 6 ∧ 6 - (i + 1) < 6 - i := by omega
    have s1 := step_i (i := i) (by omega)
    have hbi := (bands_ok k f).fit i i7'
    have t8 := tn _ hbi
    rw [decide_eq_true h, cond_true, iand7i hbi]
    refine ⟨⟨i7, i7', i7, i7', hbi, t8, hbi, t8⟩, i + 1, ⟨s1, ?_⟩, i6.1, i6.2⟩
    rw [mixR]; rfl
  · have : i = 6 := by omega
    subst this
    have B := bands_ok k f
    have hb := band_fit k f
    have h6 := B.fit 6 (by decide)
    obtain ⟨g1, g2⟩ := free_ok (k := k) (f := f) hst R.l8 Q.l8
    have of := own_fit k f s
    rw [decide_eq_false h, cond_false, iand7i h6]
    have hq := eqbPk (f, s.1, List.set (List.set (mixR (bandsK k f) s.2 t.2 6) (bandK k f).toNat (rowZ t.2 (bandK k f))) ((bandsK k f).getD 6 0).toNat (rowZ t.2 ((bandsK k f).getD 6 0))) (f, t.1, t.2) (congrArg (fun z : SHM => (f, z.1, z.2)) g2)
    unfold rowZ at hq
    have g1 : ownK k f (s.1, mixR (bandsK k f) s.2 t.2 6) = ownK k f s := g1
    have t6 := tn _ h6
    have tb := tn _ hb
    have s7 : (0 : Int) ≤ 6 ∧ (6 : Int) < ((7 : Nat) : Int) := by decide
    refine ⟨⟨hb, tb, hb, tb⟩, ⟨s7, by decide, s7, by decide, h6, t6, h6, t6⟩, ?_⟩
    rw [g1, hq, decide_eq_true (show ownK k f s = ownK k f s from rfl), decide_eq_true of.1, decide_eq_true of.2]
    rintro b rfl b1 rfl b2 rfl
    simp
end Go.SL.A

/- Functions do what they are held to do. -/
namespace Go.SL.A
open Go Go.SL Go.SL.S
theorem sndt12 : Sound Go.Proofs.Tryd.prog Gt12 := sndt14.add ⟨_, Go.Proofs.Tryd.func12, by kernel_rfl, by kernel_rfl⟩ (by
  intro args ins out h hp
  unfold spt12 at h
  split at h
  · cases h
    exact vcFun_ok (C := Ct12) good sndt14 Meth.none mix Go.Proofs.Tryd.func12 (annt12 ) (fun hw => by rw [← vct12 ]; exact puret12)
  · cases h)

theorem sndt3 : Sound Go.Proofs.Tryd.prog Gt3 := sndt12.add ⟨_, Go.Proofs.Tryd.func3, by kernel_rfl, by kernel_rfl⟩ (by
  intro args ins out h hp
  unfold spt3 at h
  split at h
  · rename_i k f side l n a
    cases h
    exact vcFun_ok (C := Ct3) good sndt12 Meth.none mix Go.Proofs.Tryd.func3 (annt3 k f side l n a) (fun hw => by rw [← vct3 k f side l n a]; exact puret3 k f side l n a (hwt3 hw))
  · cases h)

theorem sndt4 : Sound Go.Proofs.Tryd.prog Gt4 := sndt3.add ⟨_, Go.Proofs.Tryd.func4, by kernel_rfl, by kernel_rfl⟩ (by
  intro args ins out h hp
  unfold spt4 at h
  split at h
  · rename_i k f side l m n
    cases h
    exact vcFun_ok (C := Ct4) good sndt3 Meth.none mix Go.Proofs.Tryd.func4 (annt4 k f side l m n) (fun hw => by rw [← vct4 k f side l m n]; exact puret4 k f side l m n (hwt4 hw))
  · cases h)

end Go.SL.A

/- The seat: closed facts that the rows of all its statements ask. -/
namespace Go.Proofs.YteahjgigkbkcdaaDoor.Seat
open Go Go.SL
set_option maxRecDepth 100000
theorem io0 : Go.Proofs.Tryd.prog.initOrder = String.ofList (([104, 97, 114, 110, 101, 115, 115, 32, 102, 54, 53, 56, 98, 55, 57, 101, 49, 97, 97, 55, 51, 97, 52, 101, 48, 101, 99, 57, 98, 49, 52, 48, 51, 102, 48, 48, 97, 102, 97, 56, 57, 99, 56, 52, 52, 54, 97, 51, 102, 50, 100, 102, 97, 51, 49, 101, 56, 49, 49, 52, 49, 99, 51, 57, 57, 54, 100, 102, 102, 52, 102, 52, 32, 99, 117, 116, 32, 97, 116, 32, 98, 101, 108, 102, 114, 121, 47, 98, 101, 108, 102, 114, 121, 108, 97, 119, 50, 51, 46, 84, 97, 103, 84, 101, 108, 108, 115, 32, 98, 101, 108, 102, 114, 121, 47, 98, 101, 108, 102, 114, 121, 108, 97, 119, 50, 51, 46, 84, 97, 103, 70, 114, 101, 101, 32, 98, 101, 108, 102, 114, 121, 47, 98, 101, 108, 102, 114, 121, 108, 97, 119, 50, 52, 46, 70, 105, 110, 100, 67, 97, 114, 114, 105, 101, 115, 32, 98, 101, 108, 102, 114, 121, 47, 98, 101, 108, 102, 114, 121, 108, 97, 119, 50, 52, 46, 70, 105, 110, 100, 67, 104, 101, 99, 107, 101, 100, 32, 98, 101, 108, 102, 114, 121, 47, 98, 101, 108, 102, 114, 121, 108, 97, 119, 50, 52, 46, 70, 105, 110, 100, 84, 119, 105, 99, 101, 32, 98, 101, 108, 102, 114, 121, 47, 98, 101, 108, 102, 114, 121, 108, 97, 119, 50, 52, 46, 70, 105, 110, 100, 83, 101, 97, 114, 99, 104, 101, 115, 32, 98, 101, 108, 102, 114, 121, 47, 98, 101, 108, 102, 114, 121, 108, 97, 119, 50, 52, 46, 70, 105, 110, 100, 87, 97, 118, 101, 115, 32, 98, 101, 108, 102, 114, 121, 47, 98, 101, 108, 102, 114, 121, 108, 97, 119, 50, 51, 46, 84, 97, 103, 87, 105, 116, 104, 105, 110, 32, 98, 101, 108, 102, 114, 121, 47, 98, 101, 108, 102, 114, 121, 108, 97, 119, 50, 52, 46, 70, 105, 110, 100, 83, 97, 109, 112, 108, 101, 115] : List Nat).map Char.ofNat) := by kernel_rfl
theorem io : Go.Proofs.Tryd.prog.initOrder.toList = ([104, 97, 114, 110, 101, 115, 115, 32, 102, 54, 53, 56, 98, 55, 57, 101, 49, 97, 97, 55, 51, 97, 52, 101, 48, 101, 99, 57, 98, 49, 52, 48, 51, 102, 48, 48, 97, 102, 97, 56, 57, 99, 56, 52, 52, 54, 97, 51, 102, 50, 100, 102, 97, 51, 49, 101, 56, 49, 49, 52, 49, 99, 51, 57, 57, 54, 100, 102, 102, 52, 102, 52, 32, 99, 117, 116, 32, 97, 116, 32, 98, 101, 108, 102, 114, 121, 47, 98, 101, 108, 102, 114, 121, 108, 97, 119, 50, 51, 46, 84, 97, 103, 84, 101, 108, 108, 115, 32, 98, 101, 108, 102, 114, 121, 47, 98, 101, 108, 102, 114, 121, 108, 97, 119, 50, 51, 46, 84, 97, 103, 70, 114, 101, 101, 32, 98, 101, 108, 102, 114, 121, 47, 98, 101, 108, 102, 114, 121, 108, 97, 119, 50, 52, 46, 70, 105, 110, 100, 67, 97, 114, 114, 105, 101, 115, 32, 98, 101, 108, 102, 114, 121, 47, 98, 101, 108, 102, 114, 121, 108, 97, 119, 50, 52, 46, 70, 105, 110, 100, 67, 104, 101, 99, 107, 101, 100, 32, 98, 101, 108, 102, 114, 121, 47, 98, 101, 108, 102, 114, 121, 108, 97, 119, 50, 52, 46, 70, 105, 110, 100, 84, 119, 105, 99, 101, 32, 98, 101, 108, 102, 114, 121, 47, 98, 101, 108, 102, 114, 121, 108, 97, 119, 50, 52, 46, 70, 105, 110, 100, 83, 101, 97, 114, 99, 104, 101, 115, 32, 98, 101, 108, 102, 114, 121, 47, 98, 101, 108, 102, 114, 121, 108, 97, 119, 50, 52, 46, 70, 105, 110, 100, 87, 97, 118, 101, 115, 32, 98, 101, 108, 102, 114, 121, 47, 98, 101, 108, 102, 114, 121, 108, 97, 119, 50, 51, 46, 84, 97, 103, 87, 105, 116, 104, 105, 110, 32, 98, 101, 108, 102, 114, 121, 47, 98, 101, 108, 102, 114, 121, 108, 97, 119, 50, 52, 46, 70, 105, 110, 100, 83, 97, 109, 112, 108, 101, 115] : List Nat).map Char.ofNat := by
  rw [io0]; exact String.toList_ofList
theorem hd : ∃ rest, behindMainWord (wordsSigns Go.Proofs.Tryd.prog.initOrder.toList) = cutW :: rest := by
  rw [io]
  exact ⟨(behindMainWord (wordsSigns (([104, 97, 114, 110, 101, 115, 115, 32, 102, 54, 53, 56, 98, 55, 57, 101, 49, 97, 97, 55, 51, 97, 52, 101, 48, 101, 99, 57, 98, 49, 52, 48, 51, 102, 48, 48, 97, 102, 97, 56, 57, 99, 56, 52, 52, 54, 97, 51, 102, 50, 100, 102, 97, 51, 49, 101, 56, 49, 49, 52, 49, 99, 51, 57, 57, 54, 100, 102, 102, 52, 102, 52, 32, 99, 117, 116, 32, 97, 116, 32, 98, 101, 108, 102, 114, 121, 47, 98, 101, 108, 102, 114, 121, 108, 97, 119, 50, 51, 46, 84, 97, 103, 84, 101, 108, 108, 115, 32, 98, 101, 108, 102, 114, 121, 47, 98, 101, 108, 102, 114, 121, 108, 97, 119, 50, 51, 46, 84, 97, 103, 70, 114, 101, 101, 32, 98, 101, 108, 102, 114, 121, 47, 98, 101, 108, 102, 114, 121, 108, 97, 119, 50, 52, 46, 70, 105, 110, 100, 67, 97, 114, 114, 105, 101, 115, 32, 98, 101, 108, 102, 114, 121, 47, 98, 101, 108, 102, 114, 121, 108, 97, 119, 50, 52, 46, 70, 105, 110, 100, 67, 104, 101, 99, 107, 101, 100, 32, 98, 101, 108, 102, 114, 121, 47, 98, 101, 108, 102, 114, 121, 108, 97, 119, 50, 52, 46, 70, 105, 110, 100, 84, 119, 105, 99, 101, 32, 98, 101, 108, 102, 114, 121, 47, 98, 101, 108, 102, 114, 121, 108, 97, 119, 50, 52, 46, 70, 105, 110, 100, 83, 101, 97, 114, 99, 104, 101, 115, 32, 98, 101, 108, 102, 114, 121, 47, 98, 101, 108, 102, 114, 121, 108, 97, 119, 50, 52, 46, 70, 105, 110, 100, 87, 97, 118, 101, 115, 32, 98, 101, 108, 102, 114, 121, 47, 98, 101, 108, 102, 114, 121, 108, 97, 119, 50, 51, 46, 84, 97, 103, 87, 105, 116, 104, 105, 110, 32, 98, 101, 108, 102, 114, 121, 47, 98, 101, 108, 102, 114, 121, 108, 97, 119, 50, 52, 46, 70, 105, 110, 100, 83, 97, 109, 112, 108, 101, 115] : List Nat).map Char.ofNat))).tail, by kernel_rfl⟩
theorem later : Go.Proofs.Tryd.prog.laysLater = false := by kernel_rfl
theorem reflects : Go.Proofs.Tryd.prog.bearsReflect = false := by kernel_rfl
theorem door : Go.Proofs.Tryd.prog.doorFits [] = true := by kernel_rfl
theorem mayEnter : Go.Proofs.Tryd.prog.mayEnter = true := let ⟨_, h⟩ := hd; mayEnter_cut h later reflects door
theorem lifts : Go.Proofs.Tryd.prog.liftsFinal = false := let ⟨_, h⟩ := hd; lifts_cut h
theorem made : Go.Proofs.Tryd.prog.make = some .cut := let ⟨_, h⟩ := hd; make_cut h
theorem laidOut : laidOutB Go.Proofs.Tryd.prog = true := by kernel_rfl
theorem mapsRowed : mapsRowed Go.Proofs.Tryd.prog = true := by kernel_rfl
theorem stops : (Go.Proofs.Tryd.prog.stops == []) = true := by kernel_rfl
theorem knobs : (Go.Proofs.Tryd.prog.stopKnobs == []) = true := by kernel_rfl
theorem heard : Go.Proofs.Tryd.prog.stopsHeard = true := by kernel_rfl
theorem own : ownKnob Go.Proofs.Tryd.prog.godebug = none := by kernel_rfl
theorem kids : Kids Go.Proofs.Tryd.prog (· < Go.Proofs.Tryd.prog.types.size) := kids_rows laidOut mapsRowed
theorem slicesFull : ∀ t e, t < Go.Proofs.Tryd.prog.types.size → Go.Proofs.Tryd.prog.underlying t = some (.slice e) → 0 < Go.Proofs.Tryd.prog.cellsOf e := slices_full_of Go.Proofs.Tryd.prog (by kernel_rfl)
end Go.Proofs.YteahjgigkbkcdaaDoor.Seat

/- What the package-level table holds, and a world in which it does. -/
namespace Go.Proofs.YteahjgigkbkcdaaDoor.Seat
open Go Go.SL Go.SL.S
set_option maxRecDepth 100000
abbrev cells4 : Array Value := #[.int .u64 8317987319222330741, .int .u64 7237128888997146477, .int .u64 7816392313619706465, .int .u64 8387220255154660723]
theorem gname : Go.Proofs.Tryd.prog.globalNamed "belfry/sip.signs" = some 0 := by kernel_rfl
theorem gtype : (Go.Proofs.Tryd.prog.globals[0]?).map (·.type) = some 144 := by kernel_rfl
theorem u124 : Go.Proofs.Tryd.prog.underlying 144 = some (.array 4 105) := by kernel_rfl
theorem u65 : Go.Proofs.Tryd.prog.underlying 105 = some (.int .u64) := by kernel_rfl
theorem c124 : Go.Proofs.Tryd.prog.cellsOf 144 = 4 := by kernel_rfl
theorem c65 : Go.Proofs.Tryd.prog.cellsOf 105 = 1 := by kernel_rfl

theorem four {α β : Type} {f : α → Option β} {a b c d : α} {xs : List β} (h : [a, b, c, d].mapM f = some xs) : ∃ w x y z, f a = some w ∧ f b = some x ∧ f c = some y ∧ f d = some z ∧ xs = [w, x, y, z] := by
  simp only [List.mapM_cons, List.mapM_nil, Option.bind_eq_bind, Option.bind_eq_some_iff, Option.pure_def, Option.some.injEq] at h
  obtain ⟨w, h1, l1, ⟨x, h2, l2, ⟨y, h3, l3, ⟨z, h4, l4, h5, h6⟩, h7⟩, h8⟩, h9⟩ := h
  subst h5 h6 h7 h8 h9
  exact ⟨w, x, y, z, h1, h2, h3, h4, rfl⟩

/-- What the row's condition says of the table. -/
theorem signs_of {W : World} (h : laidMetH Go.Proofs.Tryd.prog [("belfry/sip.signs", Rows.laid_belfry_sip_signs)] W) : W.var? Go.Proofs.Tryd.prog "belfry/sip.signs" = some cells4 := by
  have h : laidMet Go.Proofs.Tryd.prog [("belfry/sip.signs", Rows.laid_belfry_sip_signs)] W := h
  obtain ⟨ps, ⟨g, t, cs, fuel, p, q, hg, ht, hv, htr, -, -⟩, -, -⟩ := h
  obtain rfl : 0 = g := Option.some.inj (gname.symm.trans hg)
  obtain rfl : 144 = t := Option.some.inj (gtype.symm.trans ht)
  rw [hv]
  congr 1
  cases fuel with
  | zero => cases htr
  | succ fuel =>
    simp only [DataW.trod, u124] at htr
    split at htr
    · rename_i hl
      rw [c124] at hl
      rw [Option.map_eq_some_iff] at htr
      obtain ⟨xs, hm, he⟩ := htr
      have hr : List.range 4 = [0, 1, 2, 3] := rfl
      rw [hr] at hm
      obtain ⟨w, x, y, z, h1, h2, h3, h4, rfl⟩ := four hm
      obtain ⟨n1, e1, r1, -⟩ := DataW.trod_int u65 h1
      obtain ⟨n2, e2, r2, -⟩ := DataW.trod_int u65 h2
      obtain ⟨n3, e3, r3, -⟩ := DataW.trod_int u65 h3
      obtain ⟨n4, e4, r4, -⟩ := DataW.trod_int u65 h4
      subst r1 r2 r3 r4
      have he := congrArg Prod.fst he
      have he : (.agg [.lit (.int .u64 n1), .lit (.int .u64 n2), .lit (.int .u64 n3), .lit (.int .u64 n4)] : DataW Unit) = Rows.laid_belfry_sip_signs := he
      unfold Rows.laid_belfry_sip_signs at he
      simp only [DataW.agg.injEq, List.cons.injEq, DataW.lit.injEq, Lit.int.injEq, true_and, and_true] at he
      obtain ⟨rfl, rfl, rfl, rfl⟩ := he
      rw [c65] at e1 e2 e3 e4
      apply Array.toList_inj.1
      match hcs : cs.toList, hl with
      | [a, b, c, d], _ =>
        rw [hcs] at e1 e2 e3 e4
        simp at e1 e2 e3 e4
        rw [e1, e2, e3, e4]
    · cases htr

theorem signs_gl {W : World} (h : laidMetH Go.Proofs.Tryd.prog [("belfry/sip.signs", Rows.laid_belfry_sip_signs)] W) (g : Nat) (a : AV) (hg : GTab.tab g = some a) : ∃ cs T fr, W.heap[g]? = some (.cells cs T fr) ∧ ∀ E', CR E' a.t a.x cs.toList := by
  have hv := signs_of h
  have hg : (bif Nat.beq g 0 then some (⟨.arr 4 (.int .u64), sgL⟩ : AV) else none) = some a := hg
  cases hb : Nat.beq g 0 with
  | false => rw [hb] at hg; cases hg
  | true =>
    rw [hb] at hg
    obtain rfl := Nat.eq_of_beq_eq_true hb
    cases hg
    unfold World.var? at hv
    rw [gname] at hv
    simp only [Option.bind_some] at hv
    split at hv
    · rename_i cs T fr hh
      cases hv
      refine ⟨cells4, T, fr, hh, fun E' => ?_⟩
      simp only [CR]
      refine ⟨rfl, [_], _, rfl, ⟨rfl, by decide, by decide⟩, [_], _, rfl, ⟨rfl, by decide, by decide⟩, [_], _, rfl, ⟨rfl, by decide, by decide⟩, [_], _, rfl, ⟨rfl, by decide, by decide⟩, rfl⟩
    · cases hv

/-- A world that meets the condition. -/
noncomputable def laidWorld (os : Os) : World :=
  let w0 := World.holding Go.Proofs.Tryd.prog os ⟨#[], #[], []⟩
  { w0 with heap := w0.heap.modify 0 fun
      | .cells _ t frozen => .cells cells4 t frozen
      | o => o }
theorem laidWorld_met (os : Os) (args : Array Value) : laidMetH Go.Proofs.Tryd.prog [("belfry/sip.signs", Rows.laid_belfry_sip_signs)] ((laidWorld os).forCall (fun _ _ => 0) ⟨#[], args, []⟩).memory :=
  show laidMet _ _ _ from laidMet_of_run' 4 (by kernel_rfl) (by kernel_rfl)
end Go.Proofs.YteahjgigkbkcdaaDoor.Seat

/- Functions and what they are held to do: bound to their code. -/
namespace Go.SL.A
open Go Go.SL Go.SL.S
set_option maxRecDepth 100000
noncomputable section
noncomputable def Ct10 : Ctx := ⟨Go.Proofs.Tryd.prog, D, Gt4, (fun _ _ => none), fun _ => []⟩
def annt10 (_k : List Int) (_f : Int) (_side _l : List Int) (_n : Int) (_a : ByteArray) : Nat → St → Option Ann := fun _ _ => some ⟨Nat, [14, 15], [3, 4], fun i => [(19, .v (.int .i64) (i : Int))], fun _ => [], fun i => i ≤ 8, fun i => 8 - i⟩
def outt10 (_k : List Int) (_f : Int) (_side _l : List Int) (_n : Int) (_a : ByteArray) : COut := ⟨[], .v .bool true, [], []⟩
def spt10 : Spec := fun args ins => match args, ins with
  | [⟨.arr 16 (.int .u8), k⟩, ⟨.int .u16, f⟩, ⟨.arr 8 (.int .i64), side⟩, ⟨.arr 8 (.int .u32), l⟩, ⟨.int .u8, n⟩, ⟨.str, a⟩], [] => some (outt10 k f side l n a)
  | _, _ => none
def Gt10 := addG Gt4 10 spt10
def Pt10 (k : List Int) (f : Int) (side l : List Int) (n : Int) (a : ByteArray) : Prop :=
 ∀ (b:Bool),false=b→(((!b)=true→(!b)=true)∧((!b)=true→(!b)=true)∧(b=false→(!b)=true))∧bif bif b then true else decide (200<(↑ (ByteArray.size a):Int)) then true=true else (13:Int)≠0∧(12≤IntKind.wrap .i64 (12+Int.tmod (IntKind.wrap .i64
 n) (13:Int))∧IntKind.wrap .i64 (12+Int.tmod (IntKind.wrap .i64 n) (13:Int))≤24)∧ByteArray.size a≤1000000∧bif !Ty.eqb (Ty.arr (8:Nat) (Ty.int .i64)) (putG k (IntKind.wrap .i64 f) ((shape19 side l (IntKind.wrap .i64 (12+Int.tmod (IntKind.wrap
 .i64 n) (13:Int)))).1,(shape19 side l (IntKind.wrap .i64 (12+Int.tmod (IntKind.wrap .i64 n) (13:Int)))).2) a).1 (shape19 side l (IntKind.wrap .i64 (12+Int.tmod (IntKind.wrap .i64 n) (13:Int)))).1 then ∀ (b:Bool),true=b→∀ (b_1:Bool),(bif
 b then true else !Ty.eqb (Ty.arr (4:Nat) (Ty.int .i64)) (List.getD (putG k (IntKind.wrap .i64 f) ((shape19 side l (IntKind.wrap .i64 (12+Int.tmod (IntKind.wrap .i64 n) (13:Int)))).1,(shape19 side l (IntKind.wrap .i64 (12+Int.tmod (IntKind.wrap
 .i64 n) (13:Int)))).2) a).2 (bandK k (IntKind.wrap .i64 f)).toNat (List.replicate 4 (0:Int))) (List.getD (shape19 side l (IntKind.wrap .i64 (12+Int.tmod (IntKind.wrap .i64 n) (13:Int)))).2 (bandK k (IntKind.wrap .i64 f)).toNat (List.replicate
 4 (0:Int))))=b_1→bif bif b_1 then true else !Ty.eqb (Ty.arr (4:Nat) (Ty.int .i64)) (List.getD (putG k (IntKind.wrap .i64 f) ((shape19 side l (IntKind.wrap .i64 (12+Int.tmod (IntKind.wrap .i64 n) (13:Int)))).1,(shape19 side l (IntKind.wrap
 .i64 (12+Int.tmod (IntKind.wrap .i64 n) (13:Int)))).2) a).2 (iand .i64 (List.getD (bandsK k (IntKind.wrap .i64 f)) (6:Nat) (0:Int)) (7:Int)).toNat (List.replicate 4 (0:Int))) (List.getD (shape19 side l (IntKind.wrap .i64 (12+Int.tmod
 (IntKind.wrap .i64 n) (13:Int)))).2 (iand .i64 (List.getD (bandsK k (IntKind.wrap .i64 f)) (6:Nat) (0:Int)) (7:Int)).toNat (List.replicate 4 (0:Int))) then ((true=false→false=true)∧((!b)=true→(!b)=true∧(!b)=true∧0≤bandK k (IntKind.wrap
 .i64 f)∧bandK k (IntKind.wrap .i64 f)<(↑ (8:Nat):Int))∧((!b)=true→(!b)=true∧(bandK k (IntKind.wrap .i64 f)).toNat<8)∧((!b)=true→(!b)=true)∧((!b)=true→(!b)=true∧(!b)=true∧0≤bandK k (IntKind.wrap .i64 f)∧bandK k (IntKind.wrap .i64 f)<(↑
 (8:Nat):Int))∧((!b)=true→(!b)=true∧(bandK k (IntKind.wrap .i64 f)).toNat<8)∧((!b)=true→(!b)=true∧(!b)=true)∧(b=false→(!b)=true)∧((!b_1)=true→(0:Int)≤6∧6<(↑ (7:Nat):Int))∧((!b_1)=true→(!b_1)=true∧(6:Nat)<7)∧((!b_1)=true→(!b_1)=true)∧((!b_1)=true→(!b_1)=true∧(!b_1)=true∧0≤iand
 .i64 (List.getD (bandsK k (IntKind.wrap .i64 f)) (6:Nat) (0:Int)) (7:Int)∧iand .i64 (List.getD (bandsK k (IntKind.wrap .i64 f)) (6:Nat) (0:Int)) (7:Int)<(↑ (8:Nat):Int))∧((!b_1)=true→(!b_1)=true∧(iand .i64 (List.getD (bandsK k (IntKind.wrap
 .i64 f)) (6:Nat) (0:Int)) (7:Int)).toNat<8)∧((!b_1)=true→(0:Int)≤6∧6<(↑ (7:Nat):Int))∧((!b_1)=true→(!b_1)=true∧(6:Nat)<7)∧((!b_1)=true→(!b_1)=true)∧((!b_1)=true→(!b_1)=true)∧((!b_1)=true→(!b_1)=true∧(!b_1)=true∧0≤iand .i64 (List.getD
 (bandsK k (IntKind.wrap .i64 f)) (6:Nat) (0:Int)) (7:Int)∧iand .i64 (List.getD (bandsK k (IntKind.wrap .i64 f)) (6:Nat) (0:Int)) (7:Int)<(↑ (8:Nat):Int))∧((!b_1)=true→(!b_1)=true∧(iand .i64 (List.getD (bandsK k (IntKind.wrap .i64 f))
 (6:Nat) (0:Int)) (7:Int)).toNat<8)∧((!b_1)=true→(!b_1)=true∧(!b_1)=true)∧(b_1=false→(!b_1)=true)∧(true=false→false=true)∧(true=false→false=true))∧false=true else bif !decide (ownK k (IntKind.wrap .i64 f) ((shape19 side l (IntKind.wrap
 .i64 (12+Int.tmod (IntKind.wrap .i64 n) (13:Int)))).1,(shape19 side l (IntKind.wrap .i64 (12+Int.tmod (IntKind.wrap .i64 n) (13:Int)))).2)=ownK k (IntKind.wrap .i64 f) ((putG k (IntKind.wrap .i64 f) ((shape19 side l (IntKind.wrap .i64
 (12+Int.tmod (IntKind.wrap .i64 n) (13:Int)))).1,(shape19 side l (IntKind.wrap .i64 (12+Int.tmod (IntKind.wrap .i64 n) (13:Int)))).2) a).1,(putG k (IntKind.wrap .i64 f) ((shape19 side l (IntKind.wrap .i64 (12+Int.tmod (IntKind.wrap
 .i64 n) (13:Int)))).1,(shape19 side l (IntKind.wrap .i64 (12+Int.tmod (IntKind.wrap .i64 n) (13:Int)))).2) a).2)) then ((true=false→false=true)∧((!b)=true→(!b)=true∧(!b)=true∧0≤bandK k (IntKind.wrap .i64 f)∧bandK k (IntKind.wrap .i64
 f)<(↑ (8:Nat):Int))∧((!b)=true→(!b)=true∧(bandK k (IntKind.wrap .i64 f)).toNat<8)∧((!b)=true→(!b)=true)∧((!b)=true→(!b)=true∧(!b)=true∧0≤bandK k (IntKind.wrap .i64 f)∧bandK k (IntKind.wrap .i64 f)<(↑ (8:Nat):Int))∧((!b)=true→(!b)=true∧(bandK
 k (IntKind.wrap .i64 f)).toNat<8)∧((!b)=true→(!b)=true∧(!b)=true)∧(b=false→(!b)=true)∧((!b_1)=true→(0:Int)≤6∧6<(↑ (7:Nat):Int))∧((!b_1)=true→(!b_1)=true∧(6:Nat)<7)∧((!b_1)=true→(!b_1)=true)∧((!b_1)=true→(!b_1)=true∧(!b_1)=true∧0≤iand
 .i64 (List.getD (bandsK k (IntKind.wrap .i64 f)) (6:Nat) (0:Int)) (7:Int)∧iand .i64 (List.getD (bandsK k (IntKind.wrap .i64 f)) (6:Nat) (0:Int)) (7:Int)<(↑ (8:Nat):Int))∧((!b_1)=true→(!b_1)=true∧(iand .i64 (List.getD (bandsK k (IntKind.wrap
 .i64 f)) (6:Nat) (0:Int)) (7:Int)).toNat<8)∧((!b_1)=true→(0:Int)≤6∧6<(↑ (7:Nat):Int))∧((!b_1)=true→(!b_1)=true∧(6:Nat)<7)∧((!b_1)=true→(!b_1)=true)∧((!b_1)=true→(!b_1)=true)∧((!b_1)=true→(!b_1)=true∧(!b_1)=true∧0≤iand .i64 (List.getD
 (bandsK k (IntKind.wrap .i64 f)) (6:Nat) (0:Int)) (7:Int)∧iand .i64 (List.getD (bandsK k (IntKind.wrap .i64 f)) (6:Nat) (0:Int)) (7:Int)<(↑ (8:Nat):Int))∧((!b_1)=true→(!b_1)=true∧(iand .i64 (List.getD (bandsK k (IntKind.wrap .i64 f))
 (6:Nat) (0:Int)) (7:Int)).toNat<8)∧((!b_1)=true→(!b_1)=true∧(!b_1)=true)∧(b_1=false→(!b_1)=true)∧(true=false→false=true))∧false=true else ((true=false→false=true)∧((!b)=true→(!b)=true∧(!b)=true∧0≤bandK k (IntKind.wrap .i64 f)∧bandK
 k (IntKind.wrap .i64 f)<(↑ (8:Nat):Int))∧((!b)=true→(!b)=true∧(bandK k (IntKind.wrap .i64 f)).toNat<8)∧((!b)=true→(!b)=true)∧((!b)=true→(!b)=true∧(!b)=true∧0≤bandK k (IntKind.wrap .i64 f)∧bandK k (IntKind.wrap .i64 f)<(↑ (8:Nat):Int))∧((!b)=true→(!b)=true∧(bandK
 k (IntKind.wrap .i64 f)).toNat<8)∧((!b)=true→(!b)=true∧(!b)=true)∧(b=false→(!b)=true)∧((!b_1)=true→(0:Int)≤6∧6<(↑ (7:Nat):Int))∧((!b_1)=true→(!b_1)=true∧(6:Nat)<7)∧((!b_1)=true→(!b_1)=true)∧((!b_1)=true→(!b_1)=true∧(!b_1)=true∧0≤iand
 .i64 (List.getD (bandsK k (IntKind.wrap .i64 f)) (6:Nat) (0:Int)) (7:Int)∧iand .i64 (List.getD (bandsK k (IntKind.wrap .i64 f)) (6:Nat) (0:Int)) (7:Int)<(↑ (8:Nat):Int))∧((!b_1)=true→(!b_1)=true∧(iand .i64 (List.getD (bandsK k (IntKind.wrap
 .i64 f)) (6:Nat) (0:Int)) (7:Int)).toNat<8)∧((!b_1)=true→(0:Int)≤6∧6<(↑ (7:Nat):Int))∧((!b_1)=true→(!b_1)=true∧(6:Nat)<7)∧((!b_1)=true→(!b_1)=true)∧((!b_1)=true→(!b_1)=true)∧((!b_1)=true→(!b_1)=true∧(!b_1)=true∧0≤iand .i64 (List.getD
 (bandsK k (IntKind.wrap .i64 f)) (6:Nat) (0:Int)) (7:Int)∧iand .i64 (List.getD (bandsK k (IntKind.wrap .i64 f)) (6:Nat) (0:Int)) (7:Int)<(↑ (8:Nat):Int))∧((!b_1)=true→(!b_1)=true∧(iand .i64 (List.getD (bandsK k (IntKind.wrap .i64 f))
 (6:Nat) (0:Int)) (7:Int)).toNat<8)∧((!b_1)=true→(!b_1)=true∧(!b_1)=true)∧(b_1=false→(!b_1)=true)∧ByteArray.size a≤1000000)∧bif !Ty.eqb (Ty.cons (Ty.arr (8:Nat) (Ty.int .i64)) (Ty.last (Ty.arr (8:Nat) (Ty.arr (4:Nat) (Ty.int .i64)))))
 ((putG k (IntKind.wrap .i64 f) ((putG k (IntKind.wrap .i64 f) ((shape19 side l (IntKind.wrap .i64 (12+Int.tmod (IntKind.wrap .i64 n) (13:Int)))).1,(shape19 side l (IntKind.wrap .i64 (12+Int.tmod (IntKind.wrap .i64 n) (13:Int)))).2)
 a).1,(putG k (IntKind.wrap .i64 f) ((shape19 side l (IntKind.wrap .i64 (12+Int.tmod (IntKind.wrap .i64 n) (13:Int)))).1,(shape19 side l (IntKind.wrap .i64 (12+Int.tmod (IntKind.wrap .i64 n) (13:Int)))).2) a).2) a).1,(putG k (IntKind.wrap
 .i64 f) ((putG k (IntKind.wrap .i64 f) ((shape19 side l (IntKind.wrap .i64 (12+Int.tmod (IntKind.wrap .i64 n) (13:Int)))).1,(shape19 side l (IntKind.wrap .i64 (12+Int.tmod (IntKind.wrap .i64 n) (13:Int)))).2) a).1,(putG k (IntKind.wrap
 .i64 f) ((shape19 side l (IntKind.wrap .i64 (12+Int.tmod (IntKind.wrap .i64 n) (13:Int)))).1,(shape19 side l (IntKind.wrap .i64 (12+Int.tmod (IntKind.wrap .i64 n) (13:Int)))).2) a).2) a).2) ((putG k (IntKind.wrap .i64 f) ((shape19 side
 l (IntKind.wrap .i64 (12+Int.tmod (IntKind.wrap .i64 n) (13:Int)))).1,(shape19 side l (IntKind.wrap .i64 (12+Int.tmod (IntKind.wrap .i64 n) (13:Int)))).2) a).1,(putG k (IntKind.wrap .i64 f) ((shape19 side l (IntKind.wrap .i64 (12+Int.tmod
 (IntKind.wrap .i64 n) (13:Int)))).1,(shape19 side l (IntKind.wrap .i64 (12+Int.tmod (IntKind.wrap .i64 n) (13:Int)))).2) a).2) then false=true else ∃ (x:Nat),((0=0∧0=0∧0=(x:Int)∧IntKind.wrap .i64 f=IntKind.wrap .i64 f∧(shape19 side
 l (IntKind.wrap .i64 (12+Int.tmod (IntKind.wrap .i64 n) (13:Int)))).1=(shape19 side l (IntKind.wrap .i64 (12+Int.tmod (IntKind.wrap .i64 n) (13:Int)))).1∧(shape19 side l (IntKind.wrap .i64 (12+Int.tmod (IntKind.wrap .i64 n) (13:Int)))).2=(shape19
 side l (IntKind.wrap .i64 (12+Int.tmod (IntKind.wrap .i64 n) (13:Int)))).2∧false=false∧(putG k (IntKind.wrap .i64 f) ((shape19 side l (IntKind.wrap .i64 (12+Int.tmod (IntKind.wrap .i64 n) (13:Int)))).1,(shape19 side l (IntKind.wrap
 .i64 (12+Int.tmod (IntKind.wrap .i64 n) (13:Int)))).2) a).1=(putG k (IntKind.wrap .i64 f) ((shape19 side l (IntKind.wrap .i64 (12+Int.tmod (IntKind.wrap .i64 n) (13:Int)))).1,(shape19 side l (IntKind.wrap .i64 (12+Int.tmod (IntKind.wrap
 .i64 n) (13:Int)))).2) a).1∧(putG k (IntKind.wrap .i64 f) ((shape19 side l (IntKind.wrap .i64 (12+Int.tmod (IntKind.wrap .i64 n) (13:Int)))).1,(shape19 side l (IntKind.wrap .i64 (12+Int.tmod (IntKind.wrap .i64 n) (13:Int)))).2) a).2=(putG
 k (IntKind.wrap .i64 f) ((shape19 side l (IntKind.wrap .i64 (12+Int.tmod (IntKind.wrap .i64 n) (13:Int)))).1,(shape19 side l (IntKind.wrap .i64 (12+Int.tmod (IntKind.wrap .i64 n) (13:Int)))).2) a).2∧false=false)∧x≤8)∧∀ (x:Nat),x≤8→IntKind.min
 .i64≤(x:Int)∧(x:Int)≤IntKind.max .i64→bif decide ((x:Int)<8) then ((0≤(x:Int)∧(x:Int)<(↑ (8:Nat):Int))∧(x:Int).toNat<8∧(0≤(x:Int)∧(x:Int)<(↑ (8:Nat):Int))∧(x:Int).toNat<8∧smallV (List.getD (shape19 side l (IntKind.wrap .i64 (12+Int.tmod
 (IntKind.wrap .i64 n) (13:Int)))).2 (x:Int).toNat (List.replicate 4 (0:Int)))∧smallV (List.getD (putG k (IntKind.wrap .i64 f) ((shape19 side l (IntKind.wrap .i64 (12+Int.tmod (IntKind.wrap .i64 n) (13:Int)))).1,(shape19 side l (IntKind.wrap
 .i64 (12+Int.tmod (IntKind.wrap .i64 n) (13:Int)))).2) a).2 (x:Int).toNat (List.replicate 4 (0:Int))))∧bif !mayV (putG k (IntKind.wrap .i64 f) ((shape19 side l (IntKind.wrap .i64 (12+Int.tmod (IntKind.wrap .i64 n) (13:Int)))).1,(shape19
 side l (IntKind.wrap .i64 (12+Int.tmod (IntKind.wrap .i64 n) (13:Int)))).2) a).1 (x:Int) (List.getD (shape19 side l (IntKind.wrap .i64 (12+Int.tmod (IntKind.wrap .i64 n) (13:Int)))).2 (x:Int).toNat (List.replicate 4 (0:Int))) (List.getD
 (putG k (IntKind.wrap .i64 f) ((shape19 side l (IntKind.wrap .i64 (12+Int.tmod (IntKind.wrap .i64 n) (13:Int)))).1,(shape19 side l (IntKind.wrap .i64 (12+Int.tmod (IntKind.wrap .i64 n) (13:Int)))).2) a).2 (x:Int).toNat (List.replicate
 4 (0:Int))) then false=true else ∃ (y:Nat),(0=0∧0=0∧IntKind.wrap .i64 ((x:Int)+1)=(y:Int)∧IntKind.wrap .i64 f=IntKind.wrap .i64 f∧(shape19 side l (IntKind.wrap .i64 (12+Int.tmod (IntKind.wrap .i64 n) (13:Int)))).1=(shape19 side l (IntKind.wrap
 .i64 (12+Int.tmod (IntKind.wrap .i64 n) (13:Int)))).1∧(shape19 side l (IntKind.wrap .i64 (12+Int.tmod (IntKind.wrap .i64 n) (13:Int)))).2=(shape19 side l (IntKind.wrap .i64 (12+Int.tmod (IntKind.wrap .i64 n) (13:Int)))).2∧false=false∧(putG
 k (IntKind.wrap .i64 f) ((shape19 side l (IntKind.wrap .i64 (12+Int.tmod (IntKind.wrap .i64 n) (13:Int)))).1,(shape19 side l (IntKind.wrap .i64 (12+Int.tmod (IntKind.wrap .i64 n) (13:Int)))).2) a).1=(putG k (IntKind.wrap .i64 f) ((shape19
 side l (IntKind.wrap .i64 (12+Int.tmod (IntKind.wrap .i64 n) (13:Int)))).1,(shape19 side l (IntKind.wrap .i64 (12+Int.tmod (IntKind.wrap .i64 n) (13:Int)))).2) a).1∧(putG k (IntKind.wrap .i64 f) ((shape19 side l (IntKind.wrap .i64 (12+Int.tmod
 (IntKind.wrap .i64 n) (13:Int)))).1,(shape19 side l (IntKind.wrap .i64 (12+Int.tmod (IntKind.wrap .i64 n) (13:Int)))).2) a).2=(putG k (IntKind.wrap .i64 f) ((shape19 side l (IntKind.wrap .i64 (12+Int.tmod (IntKind.wrap .i64 n) (13:Int)))).1,(shape19
 side l (IntKind.wrap .i64 (12+Int.tmod (IntKind.wrap .i64 n) (13:Int)))).2) a).2∧false=false)∧y≤8∧8 - y<8 - x else true=true else ∀ (b:Bool),(!packR ((putG k (IntKind.wrap .i64 f) ((shape19 side l (IntKind.wrap .i64 (12+Int.tmod (IntKind.wrap
 .i64 n) (13:Int)))).1,(shape19 side l (IntKind.wrap .i64 (12+Int.tmod (IntKind.wrap .i64 n) (13:Int)))).2) a).1,(putG k (IntKind.wrap .i64 f) ((shape19 side l (IntKind.wrap .i64 (12+Int.tmod (IntKind.wrap .i64 n) (13:Int)))).1,(shape19
 side l (IntKind.wrap .i64 (12+Int.tmod (IntKind.wrap .i64 n) (13:Int)))).2) a).2) (IntKind.wrap .i64 (12+Int.tmod (IntKind.wrap .i64 n) (13:Int))))=b→∀ (b_1:Bool),(bif b then true else !Ty.eqb (Ty.arr (4:Nat) (Ty.int .i64)) (List.getD
 (putG k (IntKind.wrap .i64 f) ((shape19 side l (IntKind.wrap .i64 (12+Int.tmod (IntKind.wrap .i64 n) (13:Int)))).1,(shape19 side l (IntKind.wrap .i64 (12+Int.tmod (IntKind.wrap .i64 n) (13:Int)))).2) a).2 (bandK k (IntKind.wrap .i64
 f)).toNat (List.replicate 4 (0:Int))) (List.getD (shape19 side l (IntKind.wrap .i64 (12+Int.tmod (IntKind.wrap .i64 n) (13:Int)))).2 (bandK k (IntKind.wrap .i64 f)).toNat (List.replicate 4 (0:Int))))=b_1→bif bif b_1 then true else !Ty.eqb
 (Ty.arr (4:Nat) (Ty.int .i64)) (List.getD (putG k (IntKind.wrap .i64 f) ((shape19 side l (IntKind.wrap .i64 (12+Int.tmod (IntKind.wrap .i64 n) (13:Int)))).1,(shape19 side l (IntKind.wrap .i64 (12+Int.tmod (IntKind.wrap .i64 n) (13:Int)))).2)
 a).2 (iand .i64 (List.getD (bandsK k (IntKind.wrap .i64 f)) (6:Nat) (0:Int)) (7:Int)).toNat (List.replicate 4 (0:Int))) (List.getD (shape19 side l (IntKind.wrap .i64 (12+Int.tmod (IntKind.wrap .i64 n) (13:Int)))).2 (iand .i64 (List.getD
 (bandsK k (IntKind.wrap .i64 f)) (6:Nat) (0:Int)) (7:Int)).toNat (List.replicate 4 (0:Int))) then (((!b)=true→(!b)=true∧(!b)=true∧0≤bandK k (IntKind.wrap .i64 f)∧bandK k (IntKind.wrap .i64 f)<(↑ (8:Nat):Int))∧((!b)=true→(!b)=true∧(bandK
 k (IntKind.wrap .i64 f)).toNat<8)∧((!b)=true→(!b)=true)∧((!b)=true→(!b)=true∧(!b)=true∧0≤bandK k (IntKind.wrap .i64 f)∧bandK k (IntKind.wrap .i64 f)<(↑ (8:Nat):Int))∧((!b)=true→(!b)=true∧(bandK k (IntKind.wrap .i64 f)).toNat<8)∧((!b)=true→(!b)=true∧(!b)=true)∧(b=false→(!b)=true)∧((!b_1)=true→(0:Int)≤6∧6<(↑
 (7:Nat):Int))∧((!b_1)=true→(!b_1)=true∧(6:Nat)<7)∧((!b_1)=true→(!b_1)=true)∧((!b_1)=true→(!b_1)=true∧(!b_1)=true∧0≤iand .i64 (List.getD (bandsK k (IntKind.wrap .i64 f)) (6:Nat) (0:Int)) (7:Int)∧iand .i64 (List.getD (bandsK k (IntKind.wrap
 .i64 f)) (6:Nat) (0:Int)) (7:Int)<(↑ (8:Nat):Int))∧((!b_1)=true→(!b_1)=true∧(iand .i64 (List.getD (bandsK k (IntKind.wrap .i64 f)) (6:Nat) (0:Int)) (7:Int)).toNat<8)∧((!b_1)=true→(0:Int)≤6∧6<(↑ (7:Nat):Int))∧((!b_1)=true→(!b_1)=true∧(6:Nat)<7)∧((!b_1)=true→(!b_1)=true)∧((!b_1)=true→(!b_1)=true)∧((!b_1)=true→(!b_1)=true∧(!b_1)=true∧0≤iand
 .i64 (List.getD (bandsK k (IntKind.wrap .i64 f)) (6:Nat) (0:Int)) (7:Int)∧iand .i64 (List.getD (bandsK k (IntKind.wrap .i64 f)) (6:Nat) (0:Int)) (7:Int)<(↑ (8:Nat):Int))∧((!b_1)=true→(!b_1)=true∧(iand .i64 (List.getD (bandsK k (IntKind.wrap
 .i64 f)) (6:Nat) (0:Int)) (7:Int)).toNat<8)∧((!b_1)=true→(!b_1)=true∧(!b_1)=true)∧(b_1=false→(!b_1)=true)∧(true=false→false=true)∧(true=false→false=true))∧false=true else bif !decide (ownK k (IntKind.wrap .i64 f) ((shape19 side l (IntKind.wrap
 .i64 (12+Int.tmod (IntKind.wrap .i64 n) (13:Int)))).1,(shape19 side l (IntKind.wrap .i64 (12+Int.tmod (IntKind.wrap .i64 n) (13:Int)))).2)=ownK k (IntKind.wrap .i64 f) ((putG k (IntKind.wrap .i64 f) ((shape19 side l (IntKind.wrap .i64
 (12+Int.tmod (IntKind.wrap .i64 n) (13:Int)))).1,(shape19 side l (IntKind.wrap .i64 (12+Int.tmod (IntKind.wrap .i64 n) (13:Int)))).2) a).1,(putG k (IntKind.wrap .i64 f) ((shape19 side l (IntKind.wrap .i64 (12+Int.tmod (IntKind.wrap
 .i64 n) (13:Int)))).1,(shape19 side l (IntKind.wrap .i64 (12+Int.tmod (IntKind.wrap .i64 n) (13:Int)))).2) a).2)) then (((!b)=true→(!b)=true∧(!b)=true∧0≤bandK k (IntKind.wrap .i64 f)∧bandK k (IntKind.wrap .i64 f)<(↑ (8:Nat):Int))∧((!b)=true→(!b)=true∧(bandK
 k (IntKind.wrap .i64 f)).toNat<8)∧((!b)=true→(!b)=true)∧((!b)=true→(!b)=true∧(!b)=true∧0≤bandK k (IntKind.wrap .i64 f)∧bandK k (IntKind.wrap .i64 f)<(↑ (8:Nat):Int))∧((!b)=true→(!b)=true∧(bandK k (IntKind.wrap .i64 f)).toNat<8)∧((!b)=true→(!b)=true∧(!b)=true)∧(b=false→(!b)=true)∧((!b_1)=true→(0:Int)≤6∧6<(↑
 (7:Nat):Int))∧((!b_1)=true→(!b_1)=true∧(6:Nat)<7)∧((!b_1)=true→(!b_1)=true)∧((!b_1)=true→(!b_1)=true∧(!b_1)=true∧0≤iand .i64 (List.getD (bandsK k (IntKind.wrap .i64 f)) (6:Nat) (0:Int)) (7:Int)∧iand .i64 (List.getD (bandsK k (IntKind.wrap
 .i64 f)) (6:Nat) (0:Int)) (7:Int)<(↑ (8:Nat):Int))∧((!b_1)=true→(!b_1)=true∧(iand .i64 (List.getD (bandsK k (IntKind.wrap .i64 f)) (6:Nat) (0:Int)) (7:Int)).toNat<8)∧((!b_1)=true→(0:Int)≤6∧6<(↑ (7:Nat):Int))∧((!b_1)=true→(!b_1)=true∧(6:Nat)<7)∧((!b_1)=true→(!b_1)=true)∧((!b_1)=true→(!b_1)=true)∧((!b_1)=true→(!b_1)=true∧(!b_1)=true∧0≤iand
 .i64 (List.getD (bandsK k (IntKind.wrap .i64 f)) (6:Nat) (0:Int)) (7:Int)∧iand .i64 (List.getD (bandsK k (IntKind.wrap .i64 f)) (6:Nat) (0:Int)) (7:Int)<(↑ (8:Nat):Int))∧((!b_1)=true→(!b_1)=true∧(iand .i64 (List.getD (bandsK k (IntKind.wrap
 .i64 f)) (6:Nat) (0:Int)) (7:Int)).toNat<8)∧((!b_1)=true→(!b_1)=true∧(!b_1)=true)∧(b_1=false→(!b_1)=true)∧(true=false→false=true))∧false=true else (((!b)=true→(!b)=true∧(!b)=true∧0≤bandK k (IntKind.wrap .i64 f)∧bandK k (IntKind.wrap
 .i64 f)<(↑ (8:Nat):Int))∧((!b)=true→(!b)=true∧(bandK k (IntKind.wrap .i64 f)).toNat<8)∧((!b)=true→(!b)=true)∧((!b)=true→(!b)=true∧(!b)=true∧0≤bandK k (IntKind.wrap .i64 f)∧bandK k (IntKind.wrap .i64 f)<(↑ (8:Nat):Int))∧((!b)=true→(!b)=true∧(bandK
 k (IntKind.wrap .i64 f)).toNat<8)∧((!b)=true→(!b)=true∧(!b)=true)∧(b=false→(!b)=true)∧((!b_1)=true→(0:Int)≤6∧6<(↑ (7:Nat):Int))∧((!b_1)=true→(!b_1)=true∧(6:Nat)<7)∧((!b_1)=true→(!b_1)=true)∧((!b_1)=true→(!b_1)=true∧(!b_1)=true∧0≤iand
 .i64 (List.getD (bandsK k (IntKind.wrap .i64 f)) (6:Nat) (0:Int)) (7:Int)∧iand .i64 (List.getD (bandsK k (IntKind.wrap .i64 f)) (6:Nat) (0:Int)) (7:Int)<(↑ (8:Nat):Int))∧((!b_1)=true→(!b_1)=true∧(iand .i64 (List.getD (bandsK k (IntKind.wrap
 .i64 f)) (6:Nat) (0:Int)) (7:Int)).toNat<8)∧((!b_1)=true→(0:Int)≤6∧6<(↑ (7:Nat):Int))∧((!b_1)=true→(!b_1)=true∧(6:Nat)<7)∧((!b_1)=true→(!b_1)=true)∧((!b_1)=true→(!b_1)=true)∧((!b_1)=true→(!b_1)=true∧(!b_1)=true∧0≤iand .i64 (List.getD
 (bandsK k (IntKind.wrap .i64 f)) (6:Nat) (0:Int)) (7:Int)∧iand .i64 (List.getD (bandsK k (IntKind.wrap .i64 f)) (6:Nat) (0:Int)) (7:Int)<(↑ (8:Nat):Int))∧((!b_1)=true→(!b_1)=true∧(iand .i64 (List.getD (bandsK k (IntKind.wrap .i64 f))
 (6:Nat) (0:Int)) (7:Int)).toNat<8)∧((!b_1)=true→(!b_1)=true∧(!b_1)=true)∧(b_1=false→(!b_1)=true)∧ByteArray.size a≤1000000)∧bif !Ty.eqb (Ty.cons (Ty.arr (8:Nat) (Ty.int .i64)) (Ty.last (Ty.arr (8:Nat) (Ty.arr (4:Nat) (Ty.int .i64)))))
 ((putG k (IntKind.wrap .i64 f) ((putG k (IntKind.wrap .i64 f) ((shape19 side l (IntKind.wrap .i64 (12+Int.tmod (IntKind.wrap .i64 n) (13:Int)))).1,(shape19 side l (IntKind.wrap .i64 (12+Int.tmod (IntKind.wrap .i64 n) (13:Int)))).2)
 a).1,(putG k (IntKind.wrap .i64 f) ((shape19 side l (IntKind.wrap .i64 (12+Int.tmod (IntKind.wrap .i64 n) (13:Int)))).1,(shape19 side l (IntKind.wrap .i64 (12+Int.tmod (IntKind.wrap .i64 n) (13:Int)))).2) a).2) a).1,(putG k (IntKind.wrap
 .i64 f) ((putG k (IntKind.wrap .i64 f) ((shape19 side l (IntKind.wrap .i64 (12+Int.tmod (IntKind.wrap .i64 n) (13:Int)))).1,(shape19 side l (IntKind.wrap .i64 (12+Int.tmod (IntKind.wrap .i64 n) (13:Int)))).2) a).1,(putG k (IntKind.wrap
 .i64 f) ((shape19 side l (IntKind.wrap .i64 (12+Int.tmod (IntKind.wrap .i64 n) (13:Int)))).1,(shape19 side l (IntKind.wrap .i64 (12+Int.tmod (IntKind.wrap .i64 n) (13:Int)))).2) a).2) a).2) ((putG k (IntKind.wrap .i64 f) ((shape19 side
 l (IntKind.wrap .i64 (12+Int.tmod (IntKind.wrap .i64 n) (13:Int)))).1,(shape19 side l (IntKind.wrap .i64 (12+Int.tmod (IntKind.wrap .i64 n) (13:Int)))).2) a).1,(putG k (IntKind.wrap .i64 f) ((shape19 side l (IntKind.wrap .i64 (12+Int.tmod
 (IntKind.wrap .i64 n) (13:Int)))).1,(shape19 side l (IntKind.wrap .i64 (12+Int.tmod (IntKind.wrap .i64 n) (13:Int)))).2) a).2) then false=true else ∃ (x:Nat),((0=0∧0=0∧0=(x:Int)∧IntKind.wrap .i64 f=IntKind.wrap .i64 f∧(shape19 side
 l (IntKind.wrap .i64 (12+Int.tmod (IntKind.wrap .i64 n) (13:Int)))).1=(shape19 side l (IntKind.wrap .i64 (12+Int.tmod (IntKind.wrap .i64 n) (13:Int)))).1∧(shape19 side l (IntKind.wrap .i64 (12+Int.tmod (IntKind.wrap .i64 n) (13:Int)))).2=(shape19
 side l (IntKind.wrap .i64 (12+Int.tmod (IntKind.wrap .i64 n) (13:Int)))).2∧false=false∧(putG k (IntKind.wrap .i64 f) ((shape19 side l (IntKind.wrap .i64 (12+Int.tmod (IntKind.wrap .i64 n) (13:Int)))).1,(shape19 side l (IntKind.wrap
 .i64 (12+Int.tmod (IntKind.wrap .i64 n) (13:Int)))).2) a).1=(putG k (IntKind.wrap .i64 f) ((shape19 side l (IntKind.wrap .i64 (12+Int.tmod (IntKind.wrap .i64 n) (13:Int)))).1,(shape19 side l (IntKind.wrap .i64 (12+Int.tmod (IntKind.wrap
 .i64 n) (13:Int)))).2) a).1∧(putG k (IntKind.wrap .i64 f) ((shape19 side l (IntKind.wrap .i64 (12+Int.tmod (IntKind.wrap .i64 n) (13:Int)))).1,(shape19 side l (IntKind.wrap .i64 (12+Int.tmod (IntKind.wrap .i64 n) (13:Int)))).2) a).2=(putG
 k (IntKind.wrap .i64 f) ((shape19 side l (IntKind.wrap .i64 (12+Int.tmod (IntKind.wrap .i64 n) (13:Int)))).1,(shape19 side l (IntKind.wrap .i64 (12+Int.tmod (IntKind.wrap .i64 n) (13:Int)))).2) a).2∧false=false)∧x≤8)∧∀ (x:Nat),x≤8→IntKind.min
 .i64≤(x:Int)∧(x:Int)≤IntKind.max .i64→bif decide ((x:Int)<8) then ((0≤(x:Int)∧(x:Int)<(↑ (8:Nat):Int))∧(x:Int).toNat<8∧(0≤(x:Int)∧(x:Int)<(↑ (8:Nat):Int))∧(x:Int).toNat<8∧smallV (List.getD (shape19 side l (IntKind.wrap .i64 (12+Int.tmod
 (IntKind.wrap .i64 n) (13:Int)))).2 (x:Int).toNat (List.replicate 4 (0:Int)))∧smallV (List.getD (putG k (IntKind.wrap .i64 f) ((shape19 side l (IntKind.wrap .i64 (12+Int.tmod (IntKind.wrap .i64 n) (13:Int)))).1,(shape19 side l (IntKind.wrap
 .i64 (12+Int.tmod (IntKind.wrap .i64 n) (13:Int)))).2) a).2 (x:Int).toNat (List.replicate 4 (0:Int))))∧bif !mayV (putG k (IntKind.wrap .i64 f) ((shape19 side l (IntKind.wrap .i64 (12+Int.tmod (IntKind.wrap .i64 n) (13:Int)))).1,(shape19
 side l (IntKind.wrap .i64 (12+Int.tmod (IntKind.wrap .i64 n) (13:Int)))).2) a).1 (x:Int) (List.getD (shape19 side l (IntKind.wrap .i64 (12+Int.tmod (IntKind.wrap .i64 n) (13:Int)))).2 (x:Int).toNat (List.replicate 4 (0:Int))) (List.getD
 (putG k (IntKind.wrap .i64 f) ((shape19 side l (IntKind.wrap .i64 (12+Int.tmod (IntKind.wrap .i64 n) (13:Int)))).1,(shape19 side l (IntKind.wrap .i64 (12+Int.tmod (IntKind.wrap .i64 n) (13:Int)))).2) a).2 (x:Int).toNat (List.replicate
 4 (0:Int))) then false=true else ∃ (y:Nat),(0=0∧0=0∧IntKind.wrap .i64 ((x:Int)+1)=(y:Int)∧IntKind.wrap .i64 f=IntKind.wrap .i64 f∧(shape19 side l (IntKind.wrap .i64 (12+Int.tmod (IntKind.wrap .i64 n) (13:Int)))).1=(shape19 side l (IntKind.wrap
 .i64 (12+Int.tmod (IntKind.wrap .i64 n) (13:Int)))).1∧(shape19 side l (IntKind.wrap .i64 (12+Int.tmod (IntKind.wrap .i64 n) (13:Int)))).2=(shape19 side l (IntKind.wrap .i64 (12+Int.tmod (IntKind.wrap .i64 n) (13:Int)))).2∧false=false∧(putG
 k (IntKind.wrap .i64 f) ((shape19 side l (IntKind.wrap .i64 (12+Int.tmod (IntKind.wrap .i64 n) (13:Int)))).1,(shape19 side l (IntKind.wrap .i64 (12+Int.tmod (IntKind.wrap .i64 n) (13:Int)))).2) a).1=(putG k (IntKind.wrap .i64 f) ((shape19
 side l (IntKind.wrap .i64 (12+Int.tmod (IntKind.wrap .i64 n) (13:Int)))).1,(shape19 side l (IntKind.wrap .i64 (12+Int.tmod (IntKind.wrap .i64 n) (13:Int)))).2) a).1∧(putG k (IntKind.wrap .i64 f) ((shape19 side l (IntKind.wrap .i64 (12+Int.tmod
 (IntKind.wrap .i64 n) (13:Int)))).1,(shape19 side l (IntKind.wrap .i64 (12+Int.tmod (IntKind.wrap .i64 n) (13:Int)))).2) a).2=(putG k (IntKind.wrap .i64 f) ((shape19 side l (IntKind.wrap .i64 (12+Int.tmod (IntKind.wrap .i64 n) (13:Int)))).1,(shape19
 side l (IntKind.wrap .i64 (12+Int.tmod (IntKind.wrap .i64 n) (13:Int)))).2) a).2∧false=false)∧y≤8∧8 - y<8 - x else true=true
theorem vct10 (k : List Int) (f : Int) (side l : List Int) (n : Int) (a : ByteArray) : Pt10 k f side l n a = vcFun Ct10 (annt10 k f side l n a) Go.Proofs.Tryd.f10 [⟨.arr 16 (.int .u8), k⟩, ⟨.int .u16, f⟩, ⟨.arr 8 (.int .i64), side⟩, ⟨.arr 8 (.int .u32), l⟩, ⟨.int .u8, n⟩, ⟨.str, a⟩] [] (outt10 k f side l n a) := by kernel_rfl

end
end Go.SL.A

/- Tags stay within their bands and budgets: the code as a plain condition holds. -/
namespace Go.SL.A
open Go Go.SL Go.SL.S
set_option maxRecDepth 100000

theorem puret10 (k : List Int) (f : Int) (side l : List Int) (n : Int) (a : ByteArray) (hw : (0 ≤ f ∧ f ≤ 65535) ∧ side.length = 8 ∧ (∀ x ∈ l, 0 ≤ x ∧ x ≤ 4294967295) ∧ 0 ≤ n ∧ n ≤ 255) : Pt10 k f side l n a := by
  obtain ⟨hf, hs, hl, hn⟩ := hw
  obtain ⟨e1, n1, n2⟩ := size_fit hn
  unfold Pt10
  have es : ∀ x : SHM, (x.1, x.2) = x := fun _ => rfl
  simp only [e1, w64 (n := f) (by omega) (by omega), es]
  have R := shape_rt hs hl ⟨n1, n2⟩
  have hk := shape_pack (side := side) hl ⟨n1, n2⟩
  generalize 12 + Int.tmod n 13 = N at *
  generalize shape19 side l N = s at *
  have T := put_tagd (k := k) (f := f) R a
  have hb := band_fit k f
  have B := bands_ok k f
  have h6 := B.fit 6 (by decide)
  have tw := put_twice (k := k) (f := f) R a
  have ow := own_same T.sd T.mine T.free
  have hsum : ∀ b : Int, 0 ≤ b ∧ b < 8 → sumSz (rowZ (putG k f s a).2 b) = sumSz (rowZ s.2 b) := fun b hb => put_sum R a hb
  have hmay : ∀ b : Int, 0 ≤ b ∧ b < 8 → mayV s.1 b (rowZ s.2 b) (rowZ (putG k f s a).2 b) = true := fun b hb => put_may R a hb
  have hpk : packR (putG k f s a) N = true := pack_ok ⟨n1, n2⟩ T.rt fun b hb => by
    have := hsum (b : Int) (by omega)
    unfold rowZ at this
    rw [Int.toNat_natCast] at this
    rw [this, T.sd]; exact hk b hb
  rw [tw]
  generalize hp : putG k f s a = p at *
  rw [iand7i h6]
  rw [ow]
  have r1 : List.getD p.2 (bandK k f).toNat (List.replicate 4 0) = List.getD s.2 (bandK k f).toNat (List.replicate 4 0) := T.mine
  have r2 : List.getD p.2 ((bandsK k f).getD 6 0).toNat (List.replicate 4 0) = List.getD s.2 ((bandsK k f).getD 6 0).toNat (List.replicate 4 0) := T.free
  rw [r1, r2, T.sd, hpk]
  have q1 : Ty.eqb (.arr 8 (.int .i64)) s.1 s.1 = true := by simp [Ty.eqb]
  have q4 : ∀ y : List Int, Ty.eqb (.arr 4 (.int .i64)) y y = true := fun y => by simp [Ty.eqb]
  have qs : ∀ y : SHM, Ty.eqb (.cons (.arr 8 (.int .i64)) (.last (.arr 8 (.arr 4 (.int .i64))))) y y = true := fun y => by simp [Ty.eqb]
  simp only [q1, q4, qs, Bool.not_true, cond_false, decide_true]
  rintro b rfl
  refine ⟨by simp, ?_⟩
  rw [cond_false]
  by_cases c : (200 : Int) < (ByteArray.size a : Int)
  · rw [decide_eq_true c, cond_true]; trivial
  · rw [decide_eq_false c, cond_false]
    have tn : ∀ b : Int, 0 ≤ b ∧ b < 8 → b.toNat < 8 := fun b h => by omega
    have t1 := tn _ hb
    have t6 := tn _ h6
    refine ⟨by decide, ⟨n1, n2⟩, by omega, ?_⟩
    rintro b rfl b1 rfl
    rw [cond_false, cond_false]
    have n0 : (!false) = true := rfl
    have s7 : ((0 : Int) ≤ 6 ∧ (6 : Int) < ((7 : Nat) : Int)) ∧ 6 < 7 := by decide
    refine ⟨⟨fun _ => ⟨rfl, rfl, hb⟩, fun _ => ⟨rfl, t1⟩, fun _ => rfl, fun _ => ⟨rfl, rfl, hb⟩, fun _ => ⟨rfl, t1⟩, fun _ => ⟨rfl, rfl⟩, fun _ => rfl, fun _ => s7.1, fun _ => ⟨rfl, s7.2⟩, fun _ => rfl, fun _ => ⟨rfl, rfl, h6⟩, fun _ => ⟨rfl, t6⟩, fun _ => s7.1, fun _ => ⟨rfl, s7.2⟩, fun _ => rfl, fun _ => rfl, fun _ => ⟨rfl, rfl, h6⟩, fun _ => ⟨rfl, t6⟩, fun _ => ⟨rfl, rfl⟩, fun _ => rfl, by omega⟩, ?_⟩
    simp only [true_and, and_true, Int.toNat_natCast]
    refine ⟨0, ⟨rfl, by omega⟩, fun i hi _ => ?_⟩
    by_cases h : (i : Int) < 8
    · rw [decide_eq_true h, cond_true]
      have i8 : (0 : Int) ≤ (i : Int) ∧ (i : Int) < ((8 : Nat) : Int) := ⟨by omega, by omega⟩
      have ib : (0 : Int) ≤ (i : Int) ∧ (i : Int) < 8 := ⟨by omega, by omega⟩
      have hm := hmay _ ib
      unfold rowZ at hm
      rw [Int.toNat_natCast] at hm
      rw [hm, Bool.not_true, cond_false]
      refine ⟨⟨i8, by omega, i8, by omega, small_of (okRow_of (R.sz _ ib)), small_of (okRow_of (T.rt.sz _ ib))⟩, i + 1, step_i (by omega), by omega, by omega⟩
    · rw [decide_eq_false h, cond_false]; trivial
end Go.SL.A

/- Functions do what they are held to do. -/
namespace Go.SL.A
open Go Go.SL Go.SL.S
theorem sndt10 : Sound Go.Proofs.Tryd.prog Gt10 := sndt4.add ⟨_, Go.Proofs.Tryd.func10, by kernel_rfl, by kernel_rfl⟩ (by
  intro args ins out h hp
  unfold spt10 at h
  split at h
  · rename_i k f side l n a
    cases h
    exact vcFun_ok (C := Ct10) good sndt4 Meth.none mix Go.Proofs.Tryd.func10 (annt10 k f side l n a) (fun hw => by rw [← vct10 k f side l n a]; exact puret10 k f side l n a (hwt3 hw))
  · cases h)

end Go.SL.A
