/- Part 4 of what the statements of this seat need: a logic of states for the code of the model, the functions that they reach, and what these are held to do: no condition. -/
import Derived.Test.YteahjgigkbkcdaaProg
import Derived.Test.YteahjgigkbkcdaaS01
import Derived.Test.YteahjgigkbkcdaaS02

/- The seat's type tables, for the S-logic. -/
namespace Go.SL.A
open Go Go.SL
instance gtab : GTab := ⟨fun _ => none⟩

def tyT (t : TypeId) : Option Ty := match Nat.blt t 149 with
  | true => (match Nat.blt t 74 with | true => (match Nat.blt t 37 with | true => (match Nat.blt t 18 with | true => (match Nat.blt t 9 with | true => (match Nat.blt t 4 with | true => (match Nat.blt t 2 with | true => (match Nat.blt t 1 with | true => none | false => some (.ref .func)) | false => (match Nat.blt t 3 with | true => some (.int .i64) | false => some (.int .i64))) | false => (match Nat.blt t 6 with | true => (match Nat.blt t 5 with | true => some .bool | false => some (.int .u8)) | false => (match Nat.blt t 7 with | true => some (.int .u8) | false => (match Nat.blt t 8 with | true => some (.cons (.int .i64) (.cons (.int .i64) (.cons .bool (.last (.int .u8))))) | false => some (.cons (.int .i64) (.cons (.int .i64) (.cons .bool (.last (.int .u8))))))))) | false => (match Nat.blt t 13 with | true => (match Nat.blt t 11 with | true => (match Nat.blt t 10 with | true => some .str | false => some .str) | false => (match Nat.blt t 12 with | true => some .str | false => some (.int .u64))) | false => (match Nat.blt t 15 with | true => (match Nat.blt t 14 with | true => some (.cons .str (.last (.int .u64))) | false => some (.cons .str (.last (.int .u64)))) | false => (match Nat.blt t 16 with | true => some (.ref .ptr) | false => (match Nat.blt t 17 with | true => some (.ref .ptr) | false => some (.ref .ptr)))))) | false => (match Nat.blt t 27 with | true => (match Nat.blt t 22 with | true => (match Nat.blt t 20 with | true => (match Nat.blt t 19 with | true => some (.last (.ref .ptr)) | false => some (.last (.ref .ptr))) | false => (match Nat.blt t 21 with | true => some (.ref .iface) | false => some (.int .i32))) | false => (match Nat.blt t 24 with | true => (match Nat.blt t 23 with | true => some (.arr 8 (.int .i64)) | false => some (.arr 8 (.int .i64))) | false => (match Nat.blt t 25 with | true => some (.arr 4 (.int .i64)) | false => (match Nat.blt t 26 with | true => some (.arr 4 (.int .i64)) | false => some (.arr 8 (.arr 4 (.int .i64))))))) | false => (match Nat.blt t 32 with | true => (match Nat.blt t 29 with | true => (match Nat.blt t 28 with | true => some (.cons (.arr 8 (.int .i64)) (.last (.arr 8 (.arr 4 (.int .i64))))) | false => some (.cons (.arr 8 (.int .i64)) (.last (.arr 8 (.arr 4 (.int .i64)))))) | false => (match Nat.blt t 30 with | true => some (.ref .func) | false => (match Nat.blt t 31 with | true => some (.ref .func) | false => some (.int .i64)))) | false => (match Nat.blt t 34 with | true => (match Nat.blt t 33 with | true => none | false => some (.ref .func)) | false => (match Nat.blt t 35 with | true => some (.cons (.int .i64) (.last (.cons (.arr 8 (.int .i64)) (.last (.arr 8 (.arr 4 (.int .i64))))))) | false => (match Nat.blt t 36 with | true => some (.cons (.int .i64) (.last (.cons (.arr 8 (.int .i64)) (.last (.arr 8 (.arr 4 (.int .i64))))))) | false => some (.ref .func))))))) | false => (match Nat.blt t 55 with | true => (match Nat.blt t 46 with | true => (match Nat.blt t 41 with | true => (match Nat.blt t 39 with | true => (match Nat.blt t 38 with | true => some (.ref .func) | false => some (.int .u16)) | false => (match Nat.blt t 40 with | true => some (.int .u32) | false => some (.arr 8 (.int .u32)))) | false => (match Nat.blt t 43 with | true => (match Nat.blt t 42 with | true => some (.ref .func) | false => some (.ref .func)) | false => (match Nat.blt t 44 with | true => some (.ref .func) | false => (match Nat.blt t 45 with | true => none | false => some (.ref .func))))) | false => (match Nat.blt t 50 with | true => (match Nat.blt t 48 with | true => (match Nat.blt t 47 with | true => none | false => some (.ref .func)) | false => (match Nat.blt t 49 with | true => some (.ref .slice) | false => some (.ref .func))) | false => (match Nat.blt t 52 with | true => (match Nat.blt t 51 with | true => some (.ref .func) | false => some (.ref .func)) | false => (match Nat.blt t 53 with | true => some (.ref .func) | false => (match Nat.blt t 54 with | true => some (.ref .func) | false => some (.ref .func)))))) | false => (match Nat.blt t 64 with | true => (match Nat.blt t 59 with | true => (match Nat.blt t 57 with | true => (match Nat.blt t 56 with | true => some (.ref .func) | false => some (.ref .ptr)) | false => (match Nat.blt t 58 with | true => some (.cons (.ref .slice) (.last (.int .i64))) | false => some (.cons (.ref .slice) (.last (.int .i64))))) | false => (match Nat.blt t 61 with | true => (match Nat.blt t 60 with | true => some (.ref .func) | false => none) | false => (match Nat.blt t 62 with | true => some (.ref .func) | false => (match Nat.blt t 63 with | true => some (.ref .slice) | false => some (.ref .func))))) | false => (match Nat.blt t 69 with | true => (match Nat.blt t 66 with | true => (match Nat.blt t 65 with | true => some (.ref .func) | false => some (.ref .func)) | false => (match Nat.blt t 67 with | true => some (.ref .func) | false => (match Nat.blt t 68 with | true => some (.ref .func) | false => none))) | false => (match Nat.blt t 71 with | true => (match Nat.blt t 70 with | true => some (.ref .func) | false => some (.ref .func)) | false => (match Nat.blt t 72 with | true => some (.ref .func) | false => (match Nat.blt t 73 with | true => some (.ref .func) | false => none))))))) | false => (match Nat.blt t 111 with | true => (match Nat.blt t 92 with | true => (match Nat.blt t 83 with | true => (match Nat.blt t 78 with | true => (match Nat.blt t 76 with | true => (match Nat.blt t 75 with | true => some (.ref .func) | false => some (.ref .func)) | false => (match Nat.blt t 77 with | true => some (.ref .ptr) | false => some (.ref .func))) | false => (match Nat.blt t 80 with | true => (match Nat.blt t 79 with | true => some (.ref .func) | false => none) | false => (match Nat.blt t 81 with | true => some (.ref .func) | false => (match Nat.blt t 82 with | true => some (.arr 13 (.int .i64)) | false => some (.ref .func))))) | false => (match Nat.blt t 87 with | true => (match Nat.blt t 85 with | true => (match Nat.blt t 84 with | true => some (.ref .ptr) | false => some (.ref .func)) | false => (match Nat.blt t 86 with | true => some (.ref .func) | false => some (.ref .func))) | false => (match Nat.blt t 89 with | true => (match Nat.blt t 88 with | true => some (.int .u64) | false => some (.ref .func)) | false => (match Nat.blt t 90 with | true => none | false => (match Nat.blt t 91 with | true => some (.ref .func) | false => some (.ref .func)))))) | false => (match Nat.blt t 101 with | true => (match Nat.blt t 96 with | true => (match Nat.blt t 94 with | true => (match Nat.blt t 93 with | true => some (.ref .ptr) | false => some (.cons (.ref .ptr) (.last (.ref .slice)))) | false => (match Nat.blt t 95 with | true => some (.cons (.ref .ptr) (.last (.ref .slice))) | false => some (.ref .iface))) | false => (match Nat.blt t 98 with | true => (match Nat.blt t 97 with | true => some (.ref .iface) | false => none) | false => (match Nat.blt t 99 with | true => some (.ref .func) | false => (match Nat.blt t 100 with | true => some (.ref .func) | false => some (.ref .func))))) | false => (match Nat.blt t 106 with | true => (match Nat.blt t 103 with | true => (match Nat.blt t 102 with | true => some (.ref .func) | false => some (.ref .func)) | false => (match Nat.blt t 104 with | true => some (.ref .ptr) | false => (match Nat.blt t 105 with | true => some (.ref .func) | false => some (.ref .slice)))) | false => (match Nat.blt t 108 with | true => (match Nat.blt t 107 with | true => some (.cons (.ref .slice) (.last (.ref .func))) | false => some (.cons (.ref .slice) (.last (.ref .func)))) | false => (match Nat.blt t 109 with | true => some (.ref .func) | false => (match Nat.blt t 110 with | true => some (.cons (.int .i64) (.last (.int .i64))) | false => some (.cons (.int .i64) (.last (.int .i64))))))))) | false => (match Nat.blt t 130 with | true => (match Nat.blt t 120 with | true => (match Nat.blt t 115 with | true => (match Nat.blt t 113 with | true => (match Nat.blt t 112 with | true => some (.ref .func) | false => some (.ref .func)) | false => (match Nat.blt t 114 with | true => some (.ref .func) | false => some (.cons .str (.last (.int .i64))))) | false => (match Nat.blt t 117 with | true => (match Nat.blt t 116 with | true => some (.cons .str (.last (.int .i64))) | false => some (.arr 9 (.arr 13 (.int .i64)))) | false => (match Nat.blt t 118 with | true => some (.arr 9 (.arr 13 (.int .i64))) | false => (match Nat.blt t 119 with | true => none | false => some (.ref .func))))) | false => (match Nat.blt t 125 with | true => (match Nat.blt t 122 with | true => (match Nat.blt t 121 with | true => some (.int .u64) | false => none) | false => (match Nat.blt t 123 with | true => some (.ref .func) | false => (match Nat.blt t 124 with | true => some (.ref .ptr) | false => some (.ref .iface)))) | false => (match Nat.blt t 127 with | true => (match Nat.blt t 126 with | true => some (.ref .iface) | false => some (.ref .func)) | false => (match Nat.blt t 128 with | true => some (.ref .func) | false => (match Nat.blt t 129 with | true => some (.ref .func) | false => some (.ref .func)))))) | false => (match Nat.blt t 139 with | true => (match Nat.blt t 134 with | true => (match Nat.blt t 132 with | true => (match Nat.blt t 131 with | true => some (.ref .func) | false => some (.ref .ptr)) | false => (match Nat.blt t 133 with | true => some (.last (.int .i64)) | false => some (.last (.int .i64)))) | false => (match Nat.blt t 136 with | true => (match Nat.blt t 135 with | true => none | false => some (.ref .func)) | false => (match Nat.blt t 137 with | true => some (.ref .func) | false => (match Nat.blt t 138 with | true => some (.cons (.ref .ptr) (.cons (.ref .ptr) (.cons (.ref .ptr) (.last .str)))) | false => some (.cons (.ref .ptr) (.cons (.ref .ptr) (.cons (.ref .ptr) (.last .str)))))))) | false => (match Nat.blt t 144 with | true => (match Nat.blt t 141 with | true => (match Nat.blt t 140 with | true => some (.arr 0 (.ref .ptr)) | false => some (.last (.arr 0 (.ref .ptr)))) | false => (match Nat.blt t 142 with | true => some (.last (.arr 0 (.ref .ptr))) | false => (match Nat.blt t 143 with | true => some (.int .u8) | false => some (.int .u8)))) | false => (match Nat.blt t 146 with | true => (match Nat.blt t 145 with | true => some (.ref .func) | false => some (.int .i32)) | false => (match Nat.blt t 147 with | true => some (.int .i32) | false => (match Nat.blt t 148 with | true => some (.cons (.int .u64) (.cons (.int .u64) (.cons (.int .u32) (.cons (.int .u8) (.cons (.int .u8) (.cons (.int .u8) (.cons (.int .u8) (.cons (.ref .func) (.cons (.ref .ptr) (.cons (.int .i32) (.last (.int .i32)))))))))))) | false => some (.cons (.int .u64) (.cons (.int .u64) (.cons (.int .u32) (.cons (.int .u8) (.cons (.int .u8) (.cons (.int .u8) (.cons (.int .u8) (.cons (.ref .func) (.cons (.ref .ptr) (.cons (.int .i32) (.last (.int .i32))))))))))))))))))))
  | false => none

def slT (t : TypeId) : Option TypeId := match Nat.blt t 149 with
  | true => (match Nat.blt t 74 with | true => (match Nat.blt t 37 with | true => none | false => (match Nat.blt t 55 with | true => (match Nat.blt t 46 with | true => none | false => (match Nat.blt t 50 with | true => (match Nat.blt t 48 with | true => none | false => (match Nat.blt t 49 with | true => some 5 | false => none)) | false => none)) | false => (match Nat.blt t 64 with | true => (match Nat.blt t 59 with | true => none | false => (match Nat.blt t 61 with | true => none | false => (match Nat.blt t 62 with | true => none | false => (match Nat.blt t 63 with | true => some 3 | false => none)))) | false => none))) | false => (match Nat.blt t 111 with | true => (match Nat.blt t 92 with | true => none | false => (match Nat.blt t 101 with | true => none | false => (match Nat.blt t 106 with | true => (match Nat.blt t 103 with | true => none | false => (match Nat.blt t 104 with | true => none | false => (match Nat.blt t 105 with | true => none | false => some 110))) | false => none))) | false => none))
  | false => none

def byT (t : TypeId) : Nat := match Nat.blt t 149 with
  | true => (match Nat.blt t 74 with | true => (match Nat.blt t 37 with | true => (match Nat.blt t 18 with | true => (match Nat.blt t 9 with | true => (match Nat.blt t 4 with | true => (match Nat.blt t 2 with | true => 0 | false => (match Nat.blt t 3 with | true => 0 | false => 8)) | false => (match Nat.blt t 6 with | true => (match Nat.blt t 5 with | true => 0 | false => 1) | false => 0)) | false => 0) | false => 0) | false => 0) | false => (match Nat.blt t 111 with | true => (match Nat.blt t 92 with | true => 0 | false => (match Nat.blt t 101 with | true => 0 | false => (match Nat.blt t 106 with | true => 0 | false => (match Nat.blt t 108 with | true => 0 | false => (match Nat.blt t 109 with | true => 0 | false => (match Nat.blt t 110 with | true => 0 | false => 16)))))) | false => 0))
  | false => 0

def eqT0 (t : TypeId) : Bool := match Nat.blt t 149 with
  | true => (match Nat.blt t 74 with | true => (match Nat.blt t 37 with | true => (match Nat.blt t 18 with | true => (match Nat.blt t 9 with | true => (match Nat.blt t 4 with | true => false | false => (match Nat.blt t 6 with | true => false | false => (match Nat.blt t 7 with | true => false | false => (match Nat.blt t 8 with | true => true | false => true)))) | false => false) | false => (match Nat.blt t 27 with | true => (match Nat.blt t 22 with | true => false | false => (match Nat.blt t 24 with | true => (match Nat.blt t 23 with | true => true | false => true) | false => (match Nat.blt t 25 with | true => true | false => (match Nat.blt t 26 with | true => true | false => true)))) | false => (match Nat.blt t 32 with | true => (match Nat.blt t 29 with | true => (match Nat.blt t 28 with | true => true | false => true) | false => false) | false => (match Nat.blt t 34 with | true => false | false => (match Nat.blt t 35 with | true => true | false => (match Nat.blt t 36 with | true => true | false => false)))))) | false => (match Nat.blt t 55 with | true => (match Nat.blt t 46 with | true => (match Nat.blt t 41 with | true => (match Nat.blt t 39 with | true => false | false => (match Nat.blt t 40 with | true => false | false => true)) | false => false) | false => false) | false => false)) | false => (match Nat.blt t 111 with | true => (match Nat.blt t 92 with | true => (match Nat.blt t 83 with | true => (match Nat.blt t 78 with | true => false | false => (match Nat.blt t 80 with | true => false | false => (match Nat.blt t 81 with | true => false | false => (match Nat.blt t 82 with | true => true | false => false)))) | false => false) | false => (match Nat.blt t 101 with | true => false | false => (match Nat.blt t 106 with | true => false | false => (match Nat.blt t 108 with | true => false | false => (match Nat.blt t 109 with | true => false | false => (match Nat.blt t 110 with | true => true | false => true)))))) | false => (match Nat.blt t 130 with | true => (match Nat.blt t 120 with | true => (match Nat.blt t 115 with | true => (match Nat.blt t 113 with | true => false | false => (match Nat.blt t 114 with | true => false | false => true)) | false => (match Nat.blt t 117 with | true => (match Nat.blt t 116 with | true => true | false => true) | false => (match Nat.blt t 118 with | true => true | false => false))) | false => false) | false => (match Nat.blt t 139 with | true => (match Nat.blt t 134 with | true => (match Nat.blt t 132 with | true => false | false => (match Nat.blt t 133 with | true => true | false => true)) | false => false) | false => false))))
  | false => false

def mpT (t : TypeId) : Option (TypeId × TypeId) := match Nat.blt t 149 with
  | true => none
  | false => none

def D : TI := ⟨tyT, slT, byT, eqT0, mpT⟩
def nT : Nat := 149
end Go.SL.A

/- The seat's type tables fit the program. -/
namespace Go.SL.A
open Go Go.SL

theorem beyond {t : TypeId} (h : ¬ t < 149) : tyT t = none ∧ slT t = none ∧ eqT0 t = false ∧ mpT t = none := by
  have : Nat.blt t 149 = false := by
    cases hb : Nat.blt t 149 with
    | false => rfl
    | true => exact absurd (Nat.le_of_ble_eq_true hb) h
  refine ⟨?_, ?_, ?_, ?_⟩
  · unfold tyT; rw [this]
  · unfold slT; rw [this]
  · unfold eqT0; rw [this]
  · unfold mpT; rw [this]

theorem tyAll : ((List.range 149).all fun T => chkTy Go.Proofs.Try.prog D T) = true := by kernel_rfl
theorem slAll : ((List.range 149).all fun T => chkSl Go.Proofs.Try.prog D T) = true := by kernel_rfl
theorem eqAll : ((List.range 149).all fun T => chkEq Go.Proofs.Try.prog D T) = true := by kernel_rfl

theorem mpAll : ((List.range 149).all fun T => chkMp Go.Proofs.Try.prog D T) = true := by kernel_rfl

theorem good : Good Go.Proofs.Try.prog D where
  ty := fun T => by
    by_cases h : T < 149
    · exact List.all_eq_true.1 tyAll T (List.mem_range.2 h)
    · unfold chkTy; rw [show D.ty T = none from (beyond h).1]
  sl := fun T => by
    by_cases h : T < 149
    · exact List.all_eq_true.1 slAll T (List.mem_range.2 h)
    · unfold chkSl; rw [show D.sl T = none from (beyond h).2.1]
  eq := fun T => by
    by_cases h : T < 149
    · exact List.all_eq_true.1 eqAll T (List.mem_range.2 h)
    · unfold chkEq; rw [show D.eqok T = false from (beyond h).2.2.1]; rfl
  mp := fun T => by
    by_cases h : T < 149
    · exact List.all_eq_true.1 mpAll T (List.mem_range.2 h)
    · unfold chkMp; rw [show D.mp T = none from (beyond h).2.2.2]

theorem mix : Go.Proofs.Try.prog.follows .mixedOrders = true := by kernel_rfl

end Go.SL.A

/- No function is held to anything yet; steps of counts. -/
namespace Go.SL.S
def findIx (p : Int → Bool) : List Int → Nat → Int
  | [], _ => -1
  | x :: l, i => if p x then (i : Int) else findIx p l (i + 1)
end Go.SL.S
namespace Go.SL.A
open Go Go.SL Go.SL.S
def G00 : FuncId → Option Spec := fun _ => none
theorem snd00 : Sound Go.Proofs.Try.prog G00 := Sound.none
theorem step_i {i : Nat} (h : i < 1000000) : IntKind.i64.wrap ((i : Int) + 1) = ((i + 1 : Nat) : Int) := by rw [w64 (by omega) (by omega)]; simp
theorem findIx_sign (p : Int → Bool) : ∀ (l : List Int) (i : Nat), decide (0 ≤ findIx p l i) = l.any p
  | [], i => by simp [findIx]
  | x :: l, i => by
    rw [findIx, List.any_cons]
    cases h : p x with
    | true => simp
    | false => simp [findIx_sign p l (i + 1)]
theorem take_snoc' {α : Type} {l : List α} {k : Nat} (d : α) (h : k < l.length) : l.take (k + 1) = l.take k ++ [l.getD k d] := by
  rw [List.take_add_one]; simp [h]
end Go.SL.A

/- Plain functions of pvq. -/
namespace Go.SL.S
open Go

def sz13 (x : Int) : Int := if x < -12 ∨ 12 < x then 13 else max x (-x)

def cntRow (prev : Nat → Int) : Nat → Int
  | 0 => prev 0
  | k + 1 => cntRow prev k + prev k + prev (k + 1)
def cnt0 : Nat → Int
  | 0 => 1
  | _ + 1 => 0
/-- So many vectors of n numbers have k pulses. -/
def cnt : Nat → Nat → Int
  | 0 => cnt0
  | n + 1 => cntRow (cnt n)

def sumTo (f : Nat → Int) : Nat → Int
  | 0 => 0
  | j + 1 => sumTo f j + f j

def tab (f : Nat → Nat → Int) : List (List Int) := (List.range 9).map fun m => (List.range 13).map fun j => f m j
def tabF : List (List Int) := tab cnt
def f1 (n m j : Nat) : Int := if m < n then cnt m j else 0
def f2 (n k m j : Nat) : Int := if m < n ∨ (m = n ∧ j < k) then cnt m j else 0
def f3 (n k i m j : Nat) : Int := if m < n ∨ (m = n ∧ j < k) then cnt m j else if m = n ∧ j = k then cnt (n - 1) k + 2 * sumTo (cnt (n - 1)) i else 0

def mayF (n k : Int) : Bool := decide (0 ≤ n ∧ n ≤ 8 ∧ 0 ≤ k ∧ k ≤ 12)
def countF (n k : Int) : Int := if mayF n k then cnt n.toNat k.toNat else 0

def sumSz : List Int → Int
  | [] => 0
  | x :: l => sz13 x + sumSz l
def pulsesF (y : List Int) : Int := if 8 < y.length then 13 else min (sumSz y) 13

/-- 0, 1, -1, 2, .. up to k. -/
def numsF : Nat → List Int
  | 0 => [0]
  | k + 1 => numsF k ++ [((k + 1 : Nat) : Int), -((k + 1 : Nat) : Int)]

def idxFrom (v : Int) : List Int → Nat → Int
  | [], _ => -1
  | x :: l, i => if v = x then (i : Int) else idxFrom v l (i + 1)
def idxF (l : List Int) (v : Int) : Int := idxFrom v l 0
end Go.SL.S
namespace Go.SL.A
open Go Go.SL
abbrev TT : Ty := .arr 9 (.arr 13 (.int .i64))
end Go.SL.A

/- Functions and what they are held to do: bound to their code. -/
namespace Go.SL.A
open Go Go.SL Go.SL.S
set_option maxRecDepth 100000
noncomputable def C85 : Ctx := ⟨Go.Proofs.Try.prog, D, G00, (fun _ _ => none), fun _ => []⟩
def ann85 (_n _k : Int) : Nat → St → Option Ann := fun _ _ => none
def out85 (n k : Int) : COut := ⟨[], .v .bool (mayF n k), [], []⟩
def sp85 : Spec := fun args ins => match args, ins with
  | [⟨.int .i64, n⟩, ⟨.int .i64, k⟩], [] => some (out85 n k)
  | _, _ => none
def G85 := addG G00 63 sp85
def P85 (n k : Int) : Prop :=
  ∀ (b : Bool), decide ((0 : Int) ≤ n) = b → ∀ (b_1 : Bool), (bif b then decide (n ≤ (8 : Int)) else false) = b_1 → ∀ (b_2 : Bool), (bif b_1 then decide ((0 : Int) ≤ k) else false) = b_2 → ((b = true → b = true) ∧ (b = true
  → b = true) ∧ (b_1 = true → b_1 = true) ∧ (b_1 = true → b_1 = true) ∧ (b_2 = true → b_2 = true) ∧ (b_2 = true → b_2 = true)) ∧ (bif b_2 then decide (k ≤ (12 : Int)) else false) = mayF n k
theorem vc85 (n k : Int) : P85 n k = vcFun C85 (ann85 n k) Go.Proofs.Try.f63 [⟨.int .i64, n⟩, ⟨.int .i64, k⟩] [] (out85 n k) := by kernel_rfl

noncomputable def C86 : Ctx := ⟨Go.Proofs.Try.prog, D, G85, (fun _ _ => none), fun _ => []⟩
def ann86  : Nat → St → Option Ann := fun id S => match id with | 0 => some ⟨Nat, [1], [], fun n => [(2, .v (.int .i64) (n : Int))], fun n => [(0, some ⟨false, true, .arr 9 (.arr 13 (.int .i64)), [tab (f1 n)]⟩)], fun n => 1 ≤ n ∧ n ≤ 9, fun n => 9 - n⟩ | 2 => some ⟨Nat, [1, 2], [], fun k => [(11, .v (.int .i64) (k : Int))], fun k => [(0, some ⟨false, true, .arr 9 (.arr 13 (.int .i64)), [tab (f2 (S.i 2).toNat k)]⟩)], fun k => k ≤ 13, fun k => 13 - k⟩ | _ => some ⟨Nat, [1, 2, 3, 11, 24], [], fun i => [(25, .v (.int .i64) (i : Int))], fun i => [(0, some ⟨false, true, .arr 9 (.arr 13 (.int .i64)), [tab (f3 (S.i 2).toNat (S.i 3).toNat i)]⟩)], fun i => i ≤ (S.i 3).toNat, fun i => (S.i 3).toNat - i⟩
def out86  : COut := ⟨[], .v (.ref .ptr) (.ptr 0 (.arr 9 (.arr 13 (.int .i64))) [0]), [], [⟨false, true, .arr 9 (.arr 13 (.int .i64)), [tabF]⟩]⟩
def sp86 : Spec := fun args ins => match args, ins with
  | [], [] => some out86
  | _, _ => none
def G86 := addG G85 43 sp86
def P86  : Prop :=
  (((0 : Int) ≤ (0 : Int) ∧ (0 : Int) < (↑(9 : Nat) : Int)) ∧ ((0 : Int) ≤ (0 : Int) ∧ (0 : Int) < (↑(13 : Nat) : Int)) ∧ (0 : Nat) < (9 : Nat) ∧ (0 : Nat) < (13 : Nat)) ∧ ∃ (x : Nat), (((0 : Nat) = (0 : Nat) ∧ (1 : Int) =
  (↑x : Int) ∧ List.set (List.getD (List.replicate (9 : Nat) (List.replicate (13 : Nat) (0 : Int))) (0 : Nat) (List.replicate (13 : Nat) (0 : Int))) (0 : Nat) (1 : Int) :: List.replicate (nat_lit 8) (List.replicate (13 :
  Nat) (0 : Int)) = tab (f1 x) ∧ false = false) ∧ (1 : Nat) ≤ x ∧ x ≤ (9 : Nat)) ∧ ∀ (x : Nat), (1 : Nat) ≤ x ∧ x ≤ (9 : Nat) → (IntKind.min IntKind.i64 ≤ (↑x : Int) ∧ (↑x : Int) ≤ IntKind.max IntKind.i64 ∧ ∀ (y : List
  (List Int)), List.Mem y [tab (f1 x)] → List.length y = (9 : Nat) ∧ ∀ (y_1 : List Int), List.Mem y_1 y → List.length y_1 = (13 : Nat) ∧ ∀ (y : Int), List.Mem y y_1 → IntKind.min IntKind.i64 ≤ y ∧ y ≤ IntKind.max
  IntKind.i64) → bif decide ((↑x : Int) ≤ (8 : Int)) then ∃ (x_1 : Nat), (((0 : Nat) = (0 : Nat) ∧ (↑x : Int) = (↑x : Int) ∧ (0 : Int) = (↑x_1 : Int) ∧ tab (f1 x) = tab (f2 (Int.toNat (↑x : Int)) x_1) ∧ false = false) ∧ x_1
  ≤ (13 : Nat)) ∧ ∀ (x_2 : Nat), x_2 ≤ (13 : Nat) → (IntKind.min IntKind.i64 ≤ (↑x_2 : Int) ∧ (↑x_2 : Int) ≤ IntKind.max IntKind.i64 ∧ ∀ (y : List (List Int)), List.Mem y [tab (f2 (Int.toNat (↑x : Int)) x_2)] → List.length
  y = (9 : Nat) ∧ ∀ (y_1 : List Int), List.Mem y_1 y → List.length y_1 = (13 : Nat) ∧ ∀ (y : Int), List.Mem y y_1 → IntKind.min IntKind.i64 ≤ y ∧ y ≤ IntKind.max IntKind.i64) → bif decide ((↑x_2 : Int) < (13 : Int)) then
  (((0 : Int) ≤ IntKind.wrap IntKind.i64 ((↑x : Int) - (1 : Int)) ∧ IntKind.wrap IntKind.i64 ((↑x : Int) - (1 : Int)) < (↑(9 : Nat) : Int)) ∧ ((0 : Int) ≤ (↑x_2 : Int) ∧ (↑x_2 : Int) < (↑(13 : Nat) : Int)) ∧ Int.toNat
  (IntKind.wrap IntKind.i64 ((↑x : Int) - (1 : Int))) < (9 : Nat) ∧ Int.toNat (↑x_2 : Int) < (13 : Nat) ∧ ((0 : Int) ≤ (↑x : Int) ∧ (↑x : Int) < (↑(9 : Nat) : Int)) ∧ ((0 : Int) ≤ (↑x_2 : Int) ∧ (↑x_2 : Int) < (↑(13 : Nat)
  : Int)) ∧ Int.toNat (↑x : Int) < (9 : Nat) ∧ Int.toNat (↑x_2 : Int) < (13 : Nat)) ∧ ∃ (x_3 : Nat), (((0 : Nat) = (0 : Nat) ∧ (↑x : Int) = (↑x : Int) ∧ (↑x_2 : Int) = (↑x_2 : Int) ∧ (↑x_2 : Int) = (↑x_2 : Int) ∧ (↑x_2 :
  Int) = (↑x_2 : Int) ∧ (0 : Int) = (↑x_3 : Int) ∧ List.set (tab (f2 (Int.toNat (↑x : Int)) x_2)) (Int.toNat (↑x : Int)) (List.set (List.getD (tab (f2 (Int.toNat (↑x : Int)) x_2)) (Int.toNat (↑x : Int)) (List.replicate (13
  : Nat) (0 : Int))) (Int.toNat (↑x_2 : Int)) (List.getD (List.getD (tab (f2 (Int.toNat (↑x : Int)) x_2)) (Int.toNat (IntKind.wrap IntKind.i64 ((↑x : Int) - (1 : Int)))) (List.replicate (13 : Nat) (0 : Int))) (Int.toNat
  (↑x_2 : Int)) (0 : Int))) = tab (f3 (Int.toNat (↑x : Int)) (Int.toNat (↑x_2 : Int)) x_3) ∧ false = false) ∧ x_3 ≤ Int.toNat (↑x_2 : Int)) ∧ ∀ (x_4 : Nat), x_4 ≤ Int.toNat (↑x_2 : Int) → (IntKind.min IntKind.i64 ≤ (↑x_4 :
  Int) ∧ (↑x_4 : Int) ≤ IntKind.max IntKind.i64 ∧ ∀ (y : List (List Int)), List.Mem y [tab (f3 (Int.toNat (↑x : Int)) (Int.toNat (↑x_2 : Int)) x_4)] → List.length y = (9 : Nat) ∧ ∀ (y_1 : List Int), List.Mem y_1 y →
  List.length y_1 = (13 : Nat) ∧ ∀ (y : Int), List.Mem y y_1 → IntKind.min IntKind.i64 ≤ y ∧ y ≤ IntKind.max IntKind.i64) → bif decide ((↑x_4 : Int) < (↑x_2 : Int)) then (((0 : Int) ≤ (↑x : Int) ∧ (↑x : Int) < (↑(9 : Nat) :
  Int)) ∧ ((0 : Int) ≤ (↑x_2 : Int) ∧ (↑x_2 : Int) < (↑(13 : Nat) : Int)) ∧ Int.toNat (↑x : Int) < (9 : Nat) ∧ Int.toNat (↑x_2 : Int) < (13 : Nat) ∧ ((0 : Int) ≤ IntKind.wrap IntKind.i64 ((↑x : Int) - (1 : Int)) ∧
  IntKind.wrap IntKind.i64 ((↑x : Int) - (1 : Int)) < (↑(9 : Nat) : Int)) ∧ ((0 : Int) ≤ (↑x_4 : Int) ∧ (↑x_4 : Int) < (↑(13 : Nat) : Int)) ∧ Int.toNat (IntKind.wrap IntKind.i64 ((↑x : Int) - (1 : Int))) < (9 : Nat) ∧
  Int.toNat (↑x_4 : Int) < (13 : Nat) ∧ ((0 : Int) ≤ (↑x : Int) ∧ (↑x : Int) < (↑(9 : Nat) : Int)) ∧ ((0 : Int) ≤ (↑x_2 : Int) ∧ (↑x_2 : Int) < (↑(13 : Nat) : Int)) ∧ Int.toNat (↑x : Int) < (9 : Nat) ∧ Int.toNat (↑x_2 :
  Int) < (13 : Nat)) ∧ ∃ (y : Nat), ((0 : Nat) = (0 : Nat) ∧ (↑x : Int) = (↑x : Int) ∧ (↑x_2 : Int) = (↑x_2 : Int) ∧ (↑x_2 : Int) = (↑x_2 : Int) ∧ (↑x_2 : Int) = (↑x_2 : Int) ∧ IntKind.wrap IntKind.i64 ((↑x_4 : Int) + (1 :
  Int)) = (↑y : Int) ∧ List.set (tab (f3 (Int.toNat (↑x : Int)) (Int.toNat (↑x_2 : Int)) x_4)) (Int.toNat (↑x : Int)) (List.set (List.getD (tab (f3 (Int.toNat (↑x : Int)) (Int.toNat (↑x_2 : Int)) x_4)) (Int.toNat (↑x :
  Int)) (List.replicate (13 : Nat) (0 : Int))) (Int.toNat (↑x_2 : Int)) (IntKind.wrap IntKind.i64 (List.getD (List.getD (tab (f3 (Int.toNat (↑x : Int)) (Int.toNat (↑x_2 : Int)) x_4)) (Int.toNat (↑x : Int)) (List.replicate
  (13 : Nat) (0 : Int))) (Int.toNat (↑x_2 : Int)) (0 : Int) + IntKind.wrap IntKind.i64 ((2 : Int) * List.getD (List.getD (tab (f3 (Int.toNat (↑x : Int)) (Int.toNat (↑x_2 : Int)) x_4)) (Int.toNat (IntKind.wrap IntKind.i64
  ((↑x : Int) - (1 : Int)))) (List.replicate (13 : Nat) (0 : Int))) (Int.toNat (↑x_4 : Int)) (0 : Int))))) = tab (f3 (Int.toNat (↑x : Int)) (Int.toNat (↑x_2 : Int)) y) ∧ false = false) ∧ y ≤ Int.toNat (↑x_2 : Int) ∧
  Int.toNat (↑x_2 : Int) - y < Int.toNat (↑x_2 : Int) - x_4 else ∃ (y : Nat), ((0 : Nat) = (0 : Nat) ∧ (↑x : Int) = (↑x : Int) ∧ IntKind.wrap IntKind.i64 ((↑x_2 : Int) + (1 : Int)) = (↑y : Int) ∧ tab (f3 (Int.toNat (↑x :
  Int)) (Int.toNat (↑x_2 : Int)) x_4) = tab (f2 (Int.toNat (↑x : Int)) y) ∧ false = false) ∧ y ≤ (13 : Nat) ∧ (13 : Nat) - y < (13 : Nat) - x_2 else ∃ (y : Nat), ((0 : Nat) = (0 : Nat) ∧ IntKind.wrap IntKind.i64 ((↑x : Int)
  + (1 : Int)) = (↑y : Int) ∧ tab (f2 (Int.toNat (↑x : Int)) x_2) = tab (f1 y) ∧ false = false) ∧ ((1 : Nat) ≤ y ∧ y ≤ (9 : Nat)) ∧ (9 : Nat) - y < (9 : Nat) - x else (0 : Nat) = (0 : Nat) ∧ tab (f1 x) = tabF ∧ false =
  false
theorem vc86 : P86  = vcFun C86 (ann86 ) Go.Proofs.Try.f43 [] [] out86 := by kernel_rfl

noncomputable def C41 : Ctx := ⟨Go.Proofs.Try.prog, D, G86, (fun _ _ => none), fun _ => []⟩
def ann41 (_n _k : Int) : Nat → St → Option Ann := fun _ _ => none
def out41 (n k : Int) : COut := ⟨[], .v (.int .i64) (countF n k), [], []⟩
def sp41 : Spec := fun args ins => match args, ins with
  | [⟨.int .i64, n⟩, ⟨.int .i64, k⟩], [] => some (out41 n k)
  | _, _ => none
def G41 := addG G86 34 sp41
def P41 (n k : Int) : Prop :=
  bif !mayF n k then (0 : Int) = countF n k else (((0 : Int) ≤ n ∧ n < (↑(9 : Nat) : Int)) ∧ ((0 : Int) ≤ k ∧ k < (↑(13 : Nat) : Int)) ∧ Int.toNat n < (9 : Nat) ∧ Int.toNat k < (13 : Nat)) ∧ List.getD (List.getD tabF
  (Int.toNat n) (List.replicate (13 : Nat) (0 : Int))) (Int.toNat k) (0 : Int) = countF n k
theorem vc41 (n k : Int) : P41 n k = vcFun C41 (ann41 n k) Go.Proofs.Try.f34 [⟨.int .i64, n⟩, ⟨.int .i64, k⟩] [] (out41 n k) := by kernel_rfl

noncomputable def C89 : Ctx := ⟨Go.Proofs.Try.prog, D, G41, (fun _ _ => none), fun _ => []⟩
def ann89 (_x : Int) : Nat → St → Option Ann := fun _ _ => none
def out89 (x : Int) : COut := ⟨[], .v (.int .i64) (sz13 x), [], []⟩
def sp89 : Spec := fun args ins => match args, ins with
  | [⟨.int .i64, x⟩], [] => some (out89 x)
  | _, _ => none
def G89 := addG G41 46 sp89
def P89 (x : Int) : Prop :=
  ∀ (b : Bool), decide (x < (-12 : Int)) = b → (((!b) = true → (!b) = true) ∧ (b = false → (!b) = true)) ∧ bif bif b then true else decide ((12 : Int) < x) then (13 : Int) = sz13 x else max x (IntKind.wrap IntKind.i64 ((0 :
  Int) - x)) = sz13 x
theorem vc89 (x : Int) : P89 x = vcFun C89 (ann89 x) Go.Proofs.Try.f46 [⟨.int .i64, x⟩] [] (out89 x) := by kernel_rfl

noncomputable def C44 : Ctx := ⟨Go.Proofs.Try.prog, D, G89, (fun _ _ => none), fun _ => []⟩
def ann44 (_r : Bool) (_n : Nat) (y : List Int) : Nat → St → Option Ann := fun _ _ => some ⟨Nat, [9, 10], [0], fun k => [(11, .v (.int .i64) (k : Int)), (3, .v (.int .i64) (sumSz (y.take k)))], fun _ => [], fun k => k ≤ y.length, fun k => y.length - k⟩
def out44 (_r : Bool) (n : Nat) (y : List Int) : COut := ⟨[n = y.length], .v (.int .i64) (pulsesF y), [], []⟩
def sp44 : Spec := fun args ins => match args, ins with
  | [⟨.ref .slice, .slice 0 (.int .i64) [] 0 n⟩], [⟨r, false, .int .i64, y⟩] => some (out44 r n y)
  | _, _ => none
def G44 := addG G89 24 sp44
def P44 (r : Bool) (n : Nat) (y : List Int) : Prop :=
  bif decide ((8 : Int) < (↑n : Int)) then (13 : Int) = pulsesF y ∧ y = y ∧ r = r else ∃ (x : Nat), (((0 : Int) = sumSz (List.take x y) ∧ (0 : Nat) = (0 : Nat) ∧ n = n ∧ (↑n : Int) = (↑n : Int) ∧ (0 : Int) = (↑x : Int) ∧ y
  = y ∧ r = r) ∧ x ≤ List.length y) ∧ ∀ (x : Nat), x ≤ List.length y → IntKind.min IntKind.i64 ≤ (↑x : Int) ∧ (↑x : Int) ≤ IntKind.max IntKind.i64 ∧ IntKind.min IntKind.i64 ≤ sumSz (List.take x y) ∧ sumSz (List.take x y) ≤
  IntKind.max IntKind.i64 → bif decide ((↑x : Int) < (↑n : Int)) then (((0 : Int) ≤ (↑x : Int) ∧ (↑x : Int) < (↑n : Int)) ∧ (0 : Nat) + Int.toNat (↑x : Int) < List.length y) ∧ ∃ (y_1 : Nat), (IntKind.wrap IntKind.i64 (sumSz
  (List.take x y) + sz13 (List.getD y ((0 : Nat) + Int.toNat (↑x : Int)) (0 : Int))) = sumSz (List.take y_1 y) ∧ (0 : Nat) = (0 : Nat) ∧ n = n ∧ (↑n : Int) = (↑n : Int) ∧ IntKind.wrap IntKind.i64 ((↑x : Int) + (1 : Int)) =
  (↑y_1 : Int) ∧ y = y ∧ r = r) ∧ y_1 ≤ List.length y ∧ List.length y - y_1 < List.length y - x else min (sumSz (List.take x y)) (13 : Int) = pulsesF y ∧ y = y ∧ r = r
theorem vc44 (r : Bool) (n : Nat) (y : List Int) : P44 r n y = vcFun C44 (ann44 r n y) Go.Proofs.Try.f24 [⟨.ref .slice, .slice 0 (.int .i64) [] 0 n⟩] [⟨r, false, .int .i64, y⟩] (out44 r n y) := by kernel_rfl

noncomputable def C87 : Ctx := ⟨Go.Proofs.Try.prog, D, G44, (fun _ _ => none), fun _ => []⟩
def ann87 (k : Int) : Nat → St → Option Ann := fun _ _ => some ⟨Nat, [0], [], fun x => [(4, .v (.int .i64) ((x : Int) + 1)), (3, .v (.ref .slice) (.slice 1 (.int .i64) [] 0 (2 * x + 1)))], fun x => [(1, some ⟨false, false, .int .i64, numsF x⟩)], fun x => x ≤ k.toNat, fun x => k.toNat - x⟩
def out87 (k : Int) : COut := ⟨[k ≤ 1000000], .v (.ref .slice) (.slice 0 (.int .i64) [] 0 (2 * k.toNat + 1)), [], [⟨false, false, .int .i64, numsF k.toNat⟩]⟩
def sp87 : Spec := fun args ins => match args, ins with
  | [⟨.int .i64, k⟩], [] => some (out87 k)
  | _, _ => none
def G87 := addG G44 44 sp87
def P87 (k : Int) : Prop :=
  ∃ (x : Nat), ((k = k ∧ (0 : Nat) = (0 : Nat) ∧ (1 : Nat) = (2 : Nat) * x + (1 : Nat) ∧ (1 : Int) = (↑x : Int) + (1 : Int) ∧ (0 : Int) :: List.replicate (nat_lit 0) (0 : Int) = numsF x ∧ false = false) ∧ x ≤ Int.toNat k) ∧
  ∀ (x : Nat), x ≤ Int.toNat k → (IntKind.min IntKind.i64 ≤ (↑x : Int) + (1 : Int) ∧ (↑x : Int) + (1 : Int) ≤ IntKind.max IntKind.i64 ∧ ∀ (y : Int), List.Mem y (numsF x) → IntKind.min IntKind.i64 ≤ y ∧ y ≤ IntKind.max
  IntKind.i64) → bif decide ((↑x : Int) + (1 : Int) ≤ k) then ((2 : Nat) ≤ (2 : Nat) ∧ (0 : Nat) + ((2 : Nat) * x + (1 : Nat)) = List.length (numsF x) ∧ ((2 : Nat) * x + (1 : Nat) + List.length (seg (((↑x : Int) + (1 :
  Int)) :: List.set (List.replicate (nat_lit 1) (0 : Int)) (nat_lit 0) (IntKind.wrap IntKind.i64 ((0 : Int) - ((↑x : Int) + (1 : Int))))) (0 : Nat) (2 : Nat))) * (8 : Nat) ≤ (70368744177664 : Nat)) ∧ ∃ (y : Nat), (k = k ∧
  (0 : Nat) = (0 : Nat) ∧ (2 : Nat) * x + (1 : Nat) + List.length (seg (((↑x : Int) + (1 : Int)) :: List.set (List.replicate (nat_lit 1) (0 : Int)) (nat_lit 0) (IntKind.wrap IntKind.i64 ((0 : Int) - ((↑x : Int) + (1 :
  Int))))) (0 : Nat) (2 : Nat)) = (2 : Nat) * y + (1 : Nat) ∧ IntKind.wrap IntKind.i64 ((↑x : Int) + (1 : Int) + (1 : Int)) = (↑y : Int) + (1 : Int) ∧ List.append (List.drop (0 : Nat) (numsF x)) (seg (((↑x : Int) + (1 :
  Int)) :: List.set (List.replicate (nat_lit 1) (0 : Int)) (nat_lit 0) (IntKind.wrap IntKind.i64 ((0 : Int) - ((↑x : Int) + (1 : Int))))) (0 : Nat) (2 : Nat)) = numsF y ∧ false = false) ∧ y ≤ Int.toNat k ∧ Int.toNat k - y <
  Int.toNat k - x else (0 : Nat) = (0 : Nat) ∧ (2 : Nat) * x + (1 : Nat) = (2 : Nat) * Int.toNat k + (1 : Nat) ∧ numsF x = numsF (Int.toNat k) ∧ false = false
theorem vc87 (k : Int) : P87 k = vcFun C87 (ann87 k) Go.Proofs.Try.f44 [⟨.int .i64, k⟩] [] (out87 k) := by kernel_rfl

noncomputable def C88 : Ctx := ⟨Go.Proofs.Try.prog, D, G87, (fun _ _ => none), fun _ => []⟩
def ann88 (_r : Bool) (n : Nat) (v : Int) (l : List Int) : Nat → St → Option Ann := fun _ _ => some ⟨Nat, [0, 1, 6, 7], [0], fun i => [(8, .v (.int .i64) (i : Int))], fun _ => [], fun i => i ≤ n ∧ idxF (l.take n) v = idxFrom v ((l.take n).drop i) i, fun i => n - i⟩
def out88 (_r : Bool) (n : Nat) (v : Int) (l : List Int) : COut := ⟨[n ≤ l.length, n ≤ 1000000000], .v (.int .i64) (idxF (l.take n) v), [], []⟩
def sp88 : Spec := fun args ins => match args, ins with
  | [⟨.ref .slice, .slice 0 (.int .i64) [] 0 n⟩, ⟨.int .i64, v⟩], [⟨r, false, .int .i64, l⟩] => some (out88 r n v l)
  | _, _ => none
def G88 := addG G87 45 sp88
def P88 (r : Bool) (n : Nat) (v : Int) (l : List Int) : Prop :=
  ∃ (x : Nat), (((0 : Nat) = (0 : Nat) ∧ n = n ∧ v = v ∧ (0 : Nat) = (0 : Nat) ∧ n = n ∧ (↑n : Int) = (↑n : Int) ∧ (0 : Int) = (↑x : Int) ∧ l = l ∧ r = r) ∧ x ≤ n ∧ idxF (List.take n l) v = idxFrom v (List.drop x (List.take
  n l)) x) ∧ ∀ (x : Nat), x ≤ n ∧ idxF (List.take n l) v = idxFrom v (List.drop x (List.take n l)) x → IntKind.min IntKind.i64 ≤ (↑x : Int) ∧ (↑x : Int) ≤ IntKind.max IntKind.i64 → bif decide ((↑x : Int) < (↑n : Int)) then
  (((0 : Int) ≤ (↑x : Int) ∧ (↑x : Int) < (↑n : Int)) ∧ (0 : Nat) + Int.toNat (↑x : Int) < List.length l) ∧ bif decide (v = List.getD l ((0 : Nat) + Int.toNat (↑x : Int)) (0 : Int)) then (↑x : Int) = idxF (List.take n l) v
  ∧ l = l ∧ r = r else ∃ (y : Nat), ((0 : Nat) = (0 : Nat) ∧ n = n ∧ v = v ∧ (0 : Nat) = (0 : Nat) ∧ n = n ∧ (↑n : Int) = (↑n : Int) ∧ IntKind.wrap IntKind.i64 ((↑x : Int) + (1 : Int)) = (↑y : Int) ∧ l = l ∧ r = r) ∧ (y ≤ n
  ∧ idxF (List.take n l) v = idxFrom v (List.drop y (List.take n l)) y) ∧ n - y < n - x else (-1 : Int) = idxF (List.take n l) v ∧ l = l ∧ r = r
theorem vc88 (r : Bool) (n : Nat) (v : Int) (l : List Int) : P88 r n v l = vcFun C88 (ann88 r n v l) Go.Proofs.Try.f45 [⟨.ref .slice, .slice 0 (.int .i64) [] 0 n⟩, ⟨.int .i64, v⟩] [⟨r, false, .int .i64, l⟩] (out88 r n v l) := by kernel_rfl

end Go.SL.A

namespace Go.SL.A
open Go Go.SL Go.SL.S

/-! ### Counts -/

theorem cnt_sum (n : Nat) : ∀ k, cnt (n + 1) k = cnt n k + 2 * sumTo (cnt n) k
  | 0 => by simp [cnt, cntRow, sumTo]
  | k + 1 => by
    rw [show cnt (n + 1) (k + 1) = cnt (n + 1) k + cnt n k + cnt n (k + 1) from rfl, cnt_sum n k, sumTo]
    omega

theorem cnt_le : ∀ n k, 0 ≤ cnt n k ∧ cnt n k ≤ ((3 ^ (n + k) : Nat) : Int)
  | 0, 0 => by decide
  | 0, k + 1 => by
    have : cnt 0 (k + 1) = 0 := rfl
    rw [this]
    exact ⟨Int.le_refl _, Int.natCast_nonneg _⟩
  | n + 1, 0 => by
    have := cnt_le n 0
    rw [show cnt (n + 1) 0 = cnt n 0 from rfl]
    have e : (3 : Nat) ^ (n + 1) = 3 * 3 ^ n := by rw [Nat.pow_succ]; omega
    simp only [Nat.add_zero] at *
    omega
  | n + 1, k + 1 => by
    have h1 := cnt_le (n + 1) k
    have h2 := cnt_le n k
    have h3 := cnt_le n (k + 1)
    rw [show cnt (n + 1) (k + 1) = cnt (n + 1) k + cnt n k + cnt n (k + 1) from rfl]
    have e1 : 3 ^ (n + 1 + k) = 3 * 3 ^ (n + k) := by rw [show n + 1 + k = n + k + 1 by omega, Nat.pow_succ]; omega
    have e2 : 3 ^ (n + (k + 1)) = 3 * 3 ^ (n + k) := by rw [show n + (k + 1) = n + k + 1 by omega, Nat.pow_succ]; omega
    have e3 : 3 ^ (n + 1 + (k + 1)) = 9 * 3 ^ (n + k) := by rw [show n + 1 + (k + 1) = n + k + 1 + 1 by omega, Nat.pow_succ, Nat.pow_succ]; omega
    omega

theorem cnt_fits {n k : Nat} (hn : n ≤ 8) (hk : k ≤ 12) : 0 ≤ cnt n k ∧ cnt n k ≤ 3486784401 := by
  have h := cnt_le n k
  have : 3 ^ (n + k) ≤ 3 ^ 20 := Nat.pow_le_pow_right (by decide) (by omega)
  have e : 3 ^ 20 = 3486784401 := by decide
  omega

theorem sumTo_nn {f : Nat → Int} (h : ∀ i, 0 ≤ f i) : ∀ i, 0 ≤ sumTo f i
  | 0 => by simp [sumTo]
  | i + 1 => by have := h i; have := sumTo_nn h i; simp only [sumTo]; omega

theorem sumTo_le {f : Nat → Int} (h : ∀ i, 0 ≤ f i) (i : Nat) : ∀ d, sumTo f i ≤ sumTo f (i + d)
  | 0 => Int.le_refl _
  | d + 1 => by have := h (i + d); have := sumTo_le h i d; rw [← Nat.add_assoc, sumTo]; omega

/-! ### Tables -/

theorem set_map_range {α : Type} (f : Nat → α) (n j : Nat) (v : α) : List.set ((List.range n).map f) j v = (List.range n).map fun i => if i = j then v else f i := by
  apply List.ext_getElem
  · simp
  · intro i h1 h2
    rw [List.getElem_set]
    simp only [List.getElem_map, List.getElem_range]
    by_cases h : j = i
    · subst h; simp
    · rw [if_neg h, if_neg (fun e => h e.symm)]

theorem row_get {g : Nat → Int} {j : Nat} (h : j < 13) : ((List.range 13).map g).getD j 0 = g j := by simp [h]
theorem tab_get {f : Nat → Nat → Int} {m : Nat} {d : List Int} (h : m < 9) : (tab f).getD m d = (List.range 13).map (f m) := by simp [tab, h]
theorem tab_congr {f g : Nat → Nat → Int} (h : ∀ m j, m < 9 → j < 13 → f m j = g m j) : tab f = tab g :=
  List.map_congr_left fun m hm => List.map_congr_left fun j hj => h m j (List.mem_range.1 hm) (List.mem_range.1 hj)
theorem tab_set {f g : Nat → Nat → Int} {m j : Nat} {v : Int} (h : ∀ m' j', m' < 9 → j' < 13 → g m' j' = if m' = m ∧ j' = j then v else f m' j') :
    List.set (tab f) m (List.set ((List.range 13).map (f m)) j v) = tab g := by
  rw [set_map_range]
  show List.set ((List.range 9).map _) m _ = _
  rw [set_map_range]
  refine List.map_congr_left fun m' hm => ?_
  by_cases e : m' = m
  · subst e
    rw [if_pos rfl]
    refine List.map_congr_left fun j' hj => ?_
    rw [h m' j' (List.mem_range.1 hm) (List.mem_range.1 hj)]
    simp
  · rw [if_neg e]
    refine List.map_congr_left fun j' hj => ?_
    rw [h m' j' (List.mem_range.1 hm) (List.mem_range.1 hj), if_neg (fun x => e x.1)]

/-! ### The functions -/

theorem pure85 (n k : Int) : P85 n k := by
  unfold P85 mayF
  rintro _ rfl _ rfl _ rfl
  refine ⟨by simp, ?_⟩
  by_cases h1 : 0 ≤ n <;> by_cases h2 : n ≤ 8 <;> by_cases h3 : 0 ≤ k <;> by_cases h4 : k ≤ 12 <;> simp [h1, h2, h3, h4]

theorem pure86 : P86 := by
  unfold P86
  simp only [Int.toNat_natCast, eq_self, true_and, and_true]
  refine ⟨by decide, 1, ⟨by decide, by decide⟩, fun n hn _ => ?_⟩
  by_cases h8 : (n : Int) ≤ 8
  · have hn8 : n ≤ 8 := by omega
    have w1 : IntKind.i64.wrap ((n : Int) - 1) = ((n - 1 : Nat) : Int) := by rw [w64 (by omega) (by omega)]; omega
    have w2 : IntKind.i64.wrap ((n : Int) + 1) = ((n + 1 : Nat) : Int) := by rw [w64 (by omega) (by omega)]; simp
    simp only [h8, decide_true, cond_true, w1, w2, Int.toNat_natCast]
    refine ⟨0, ⟨⟨rfl, tab_congr fun m j hm hj => by simp [f1, f2]⟩, by omega⟩, fun k hk _ => ?_⟩
    by_cases hk13 : (k : Int) < 13
    · have hk2 : k < 13 := by omega
      have w3 : IntKind.i64.wrap ((k : Int) + 1) = ((k + 1 : Nat) : Int) := by rw [w64 (by omega) (by omega)]; simp
      simp only [hk13, decide_true, cond_true, w3]
      rw [tab_get (f := f2 n k) (m := n) (by omega), tab_get (f := f2 n k) (m := n - 1) (by omega), row_get hk2]
      refine ⟨by omega, 0, ⟨⟨rfl, tab_set fun m' j' hm hj => ?_⟩, by omega⟩, fun i hi _ => ?_⟩
      · unfold f3 f2
        simp only [sumTo]
        by_cases e : m' = n ∧ j' = k
        · obtain ⟨rfl, rfl⟩ := e
          have h1 : m' - 1 < m' ∨ (m' - 1 = m' ∧ j' < j') := by omega
          have h2 : ¬ (m' < m' ∨ (m' = m' ∧ j' < j')) := by omega
          rw [if_neg h2, if_pos h1, if_pos ⟨rfl, rfl⟩, if_pos ⟨rfl, rfl⟩]; omega
        · simp [e]
      · by_cases hik : (i : Int) < (k : Int)
        · have w4 : IntKind.i64.wrap ((i : Int) + 1) = ((i + 1 : Nat) : Int) := by rw [w64 (by omega) (by omega)]; simp
          simp only [hik, decide_true, cond_true, w4]
          rw [tab_get (f := f3 n k i) (m := n) (by omega), tab_get (f := f3 n k i) (m := n - 1) (by omega), row_get hk2, row_get (show i < 13 by omega)]
          have e1 : f3 n k i n k = cnt (n - 1) k + 2 * sumTo (cnt (n - 1)) i := by simp [f3]
          have e2 : f3 n k i (n - 1) i = cnt (n - 1) i := by
            have : n - 1 < n ∨ (n - 1 = n ∧ i < k) := by omega
            simp [f3, this]
          rw [e1, e2]
          have hc1 := cnt_fits (n := n - 1) (k := i) (by omega) (by omega)
          have hc2 := cnt_fits (n := n) (k := k) (by omega) (by omega)
          have hs := cnt_sum (n - 1) k
          rw [show n - 1 + 1 = n by omega] at hs
          have hs2 := sumTo_le (f := cnt (n - 1)) (fun i => (cnt_le (n - 1) i).1) (i + 1) (k - (i + 1))
          rw [show i + 1 + (k - (i + 1)) = k by omega, sumTo] at hs2
          have hs3 := sumTo_nn (f := cnt (n - 1)) (fun i => (cnt_le (n - 1) i).1) i
          have hc3 := cnt_le (n - 1) k
          rw [w64 (n := 2 * cnt (n - 1) i) (by omega) (by omega), w64 (by omega) (by omega)]
          refine ⟨by omega, i + 1, ⟨rfl, tab_set fun m' j' hm hj => ?_⟩, by omega, by omega⟩
          unfold f3
          simp only [sumTo]
          by_cases e : m' = n ∧ j' = k
          · obtain ⟨rfl, rfl⟩ := e
            simp; omega
          · simp [e]
        · have : i = k := by omega
          subst this
          simp only [hik, decide_false, cond_false]
          refine ⟨i + 1, ⟨rfl, tab_congr fun m j hm hj => ?_⟩, by omega, by omega⟩
          have hs := cnt_sum (n - 1) i
          rw [show n - 1 + 1 = n by omega] at hs
          unfold f3 f2
          by_cases e : m < n ∨ (m = n ∧ j < i)
          · rw [if_pos e, if_pos (by omega)]
          · rw [if_neg e]
            by_cases e2 : m = n ∧ j = i
            · obtain ⟨rfl, rfl⟩ := e2
              rw [if_pos ⟨rfl, rfl⟩, if_pos (by omega), hs]
            · rw [if_neg e2, if_neg (by omega)]
    · have : k = 13 := by omega
      subst this
      simp only [hk13, decide_false, cond_false]
      refine ⟨n + 1, ⟨rfl, tab_congr fun m j hm hj => ?_⟩, by omega, by omega⟩
      unfold f2 f1
      by_cases e : m < n + 1
      · rw [if_pos e, if_pos (by omega)]
      · rw [if_neg e, if_neg (by omega)]
  · have : n = 9 := by omega
    subst this
    simp only [h8, decide_false, cond_false]
    exact tab_congr fun m j hm hj => by simp [f1, hm]

theorem pure41 (n k : Int) : P41 n k := by
  unfold P41 countF
  cases hm : mayF n k with
  | false => simp
  | true =>
    have h : 0 ≤ n ∧ n ≤ 8 ∧ 0 ≤ k ∧ k ≤ 12 := by simpa [mayF] using hm
    simp only [Bool.not_true, cond_false, if_true]
    refine ⟨by omega, ?_⟩
    unfold tabF
    rw [tab_get (by omega), row_get (by omega)]

theorem pure89 (x : Int) : P89 x := by
  unfold P89 sz13
  rintro _ rfl
  refine ⟨by simp, ?_⟩
  by_cases h1 : x < -12
  · simp [h1]
  · by_cases h2 : 12 < x
    · simp [h1, h2]
    · have w : IntKind.i64.wrap (0 - x) = -x := by rw [w64 (by omega) (by omega)]; omega
      have h3 : ¬ (x < -12 ∨ 12 < x) := by omega
      rw [if_neg h3]
      simp only [h1, h2, decide_false, cond_false, w]

theorem sz13_le (x : Int) : 0 ≤ sz13 x ∧ sz13 x ≤ 13 := by unfold sz13; split <;> omega

theorem sumSz_append : ∀ a b : List Int, sumSz (a ++ b) = sumSz a + sumSz b
  | [], b => by simp [sumSz]
  | x :: a, b => by simp only [List.cons_append, sumSz, sumSz_append a b]; omega

theorem sumSz_le : ∀ a : List Int, 0 ≤ sumSz a ∧ sumSz a ≤ 13 * (a.length : Int)
  | [] => by simp [sumSz]
  | x :: a => by have := sumSz_le a; have := sz13_le x; simp only [sumSz, List.length_cons]; omega


theorem pure44 (r : Bool) (n : Nat) (y : List Int) (hn : n = y.length) : P44 r n y := by
  subst hn
  unfold P44 pulsesF
  by_cases h8 : (8 : Int) < (y.length : Int)
  · have : 8 < y.length := by omega
    rw [if_pos this]
    simp only [h8, decide_true, cond_true, and_self]
  · have h9 : ¬ 8 < y.length := by omega
    simp only [h8, h9, decide_false, cond_false, if_false, Int.toNat_natCast, Nat.zero_add, eq_self, true_and, and_true]
    refine ⟨0, ⟨by simp [sumSz], by omega⟩, fun k hk _ => ?_⟩
    by_cases h : (k : Int) < (y.length : Int)
    · have hk2 : k < y.length := by omega
      have w : IntKind.i64.wrap ((k : Int) + 1) = ((k + 1 : Nat) : Int) := by rw [w64 (by omega) (by omega)]; simp
      simp only [h, decide_true, cond_true]
      have h1 := sumSz_le (y.take k)
      have h2 := sz13_le (y.getD k 0)
      rw [List.length_take] at h1
      refine ⟨by simp [hk2], k + 1, ⟨?_, w⟩, by omega, by omega⟩
      rw [take_snoc' 0 hk2, sumSz_append, w64 (by omega) (by omega)]
      simp [sumSz]
    · have : k = y.length := by omega
      subst this
      simp only [h, decide_false, cond_false, List.take_length]

theorem numsF_len : ∀ k, (numsF k).length = 2 * k + 1
  | 0 => rfl
  | k + 1 => by simp [numsF, numsF_len k]; omega

theorem pure87 (k : Int) (hk : k ≤ 1000000) : P87 k := by
  unfold P87
  simp only [Nat.zero_add, eq_self, true_and, and_true]
  refine ⟨0, ⟨⟨by simp, by simp, rfl⟩, by omega⟩, fun x hx _ => ?_⟩
  by_cases h : (x : Int) + 1 ≤ k
  · simp only [h, decide_true, cond_true]
    have w1 : IntKind.i64.wrap ((x : Int) + 1 + 1) = ((x + 1 : Nat) : Int) + 1 := by rw [w64 (by omega) (by omega)]; simp
    have w2 : IntKind.i64.wrap (0 - ((x : Int) + 1)) = -((x + 1 : Nat) : Int) := by rw [w64 (by omega) (by omega)]; omega
    have es : seg (((x : Int) + 1) :: List.set (List.replicate 1 (0 : Int)) 0 (IntKind.i64.wrap (0 - ((x : Int) + 1)))) 0 2 = [((x + 1 : Nat) : Int), -((x + 1 : Nat) : Int)] := by
      rw [w2]; simp [seg]
    rw [es]
    refine ⟨⟨by omega, by rw [numsF_len], by simp; omega⟩, x + 1, ⟨by simp; omega, w1, rfl⟩, by omega, by omega⟩
  · have : x = k.toNat := by omega
    subst this
    simp only [h, decide_false, cond_false, and_self]

theorem pure88 (r : Bool) (n : Nat) (v : Int) (l : List Int) (hn : n ≤ l.length) (h1 : n ≤ 1000000000) : P88 r n v l := by
  unfold P88
  simp only [Int.toNat_natCast, Nat.zero_add, eq_self, true_and, and_true]
  refine ⟨0, ⟨rfl, by omega, by simp [idxF]⟩, fun i hi _ => ?_⟩
  obtain ⟨hi, hix⟩ := hi
  by_cases h : (i : Int) < (n : Int)
  · have hil : i < l.length := by omega
    have w : IntKind.i64.wrap ((i : Int) + 1) = ((i + 1 : Nat) : Int) := by rw [w64 (by omega) (by omega)]; simp
    have ed : (l.take n).drop i = l.getD i 0 :: (l.take n).drop (i + 1) := by
      rw [List.drop_eq_getElem_cons (by simp; omega)]; simp [hil]
    rw [ed, idxFrom] at hix
    simp only [h, decide_true, cond_true]
    refine ⟨by simp [hil], ?_⟩
    by_cases hv : v = l.getD i 0
    · rw [if_pos hv] at hix
      simp only [hv, decide_true, cond_true]
      rw [← hv, hix]
    · rw [if_neg hv] at hix
      simp only [hv, decide_false, cond_false]
      exact ⟨i + 1, w, ⟨by omega, hix⟩, by omega⟩
  · have : i = n := by omega
    subst this
    simp only [h, decide_false, cond_false]
    rw [hix, List.drop_eq_nil_of_le (by simp; omega)]
    rfl

end Go.SL.A

/- Functions do what they are held to do. -/
namespace Go.SL.A
open Go Go.SL Go.SL.S
theorem snd85 : Sound Go.Proofs.Try.prog G85 := snd00.add ⟨_, Go.Proofs.Try.func63, by kernel_rfl, by kernel_rfl⟩ (by
  intro args ins out h hp
  unfold sp85 at h
  split at h
  · rename_i n k
    cases h
    exact vcFun_ok (C := C85) good snd00 Meth.none mix Go.Proofs.Try.func63 (ann85 n k) (fun hw => by rw [← vc85 n k]; exact pure85 n k)
  · cases h)

theorem snd86 : Sound Go.Proofs.Try.prog G86 := snd85.add ⟨_, Go.Proofs.Try.func43, by kernel_rfl, by kernel_rfl⟩ (by
  intro args ins out h hp
  unfold sp86 at h
  split at h
  · cases h
    exact vcFun_ok (C := C86) good snd85 Meth.none mix Go.Proofs.Try.func43 (ann86 ) (fun hw => by rw [← vc86 ]; exact pure86)
  · cases h)

theorem snd41 : Sound Go.Proofs.Try.prog G41 := snd86.add ⟨_, Go.Proofs.Try.func34, by kernel_rfl, by kernel_rfl⟩ (by
  intro args ins out h hp
  unfold sp41 at h
  split at h
  · rename_i n k
    cases h
    exact vcFun_ok (C := C41) good snd86 Meth.none mix Go.Proofs.Try.func34 (ann41 n k) (fun hw => by rw [← vc41 n k]; exact pure41 n k)
  · cases h)

theorem snd89 : Sound Go.Proofs.Try.prog G89 := snd41.add ⟨_, Go.Proofs.Try.func46, by kernel_rfl, by kernel_rfl⟩ (by
  intro args ins out h hp
  unfold sp89 at h
  split at h
  · rename_i x
    cases h
    exact vcFun_ok (C := C89) good snd41 Meth.none mix Go.Proofs.Try.func46 (ann89 x) (fun hw => by rw [← vc89 x]; exact pure89 x)
  · cases h)

theorem snd44 : Sound Go.Proofs.Try.prog G44 := snd89.add ⟨_, Go.Proofs.Try.func24, by kernel_rfl, by kernel_rfl⟩ (by
  intro args ins out h hp
  unfold sp44 at h
  split at h
  · rename_i n r y
    cases h
    exact vcFun_ok (C := C44) good snd89 Meth.none mix Go.Proofs.Try.func24 (ann44 r n y) (fun hw => by rw [← vc44 r n y]; exact pure44 r n y hp)
  · cases h)

theorem snd87 : Sound Go.Proofs.Try.prog G87 := snd44.add ⟨_, Go.Proofs.Try.func44, by kernel_rfl, by kernel_rfl⟩ (by
  intro args ins out h hp
  unfold sp87 at h
  split at h
  · rename_i k
    cases h
    exact vcFun_ok (C := C87) good snd44 Meth.none mix Go.Proofs.Try.func44 (ann87 k) (fun hw => by rw [← vc87 k]; exact pure87 k hp)
  · cases h)

theorem snd88 : Sound Go.Proofs.Try.prog G88 := snd87.add ⟨_, Go.Proofs.Try.func45, by kernel_rfl, by kernel_rfl⟩ (by
  intro args ins out h hp
  unfold sp88 at h
  split at h
  · rename_i n v r l
    cases h
    exact vcFun_ok (C := C88) good snd87 Meth.none mix Go.Proofs.Try.func45 (ann88 r n v l) (fun hw => by rw [← vc88 r n v l]; exact pure88 r n v l hp.1 hp.2)
  · cases h)

end Go.SL.A

/- Plain functions of pvq, more. -/
namespace Go.SL.S
open Go

def sumBy (n K : Nat) : List Int → Int
  | [] => 0
  | z :: l => cnt n (K - (sz13 z).toNat) + sumBy n K l

/-- A vector's number. -/
def numF : List Int → Int
  | [] => 0
  | x :: ys => sumBy ys.length (sumSz (x :: ys)).toNat ((numsF (sumSz (x :: ys)).toNat).take (idxF (numsF (sumSz (x :: ys)).toNat) x).toNat) + numF ys
def indexF (y : List Int) : Int × Int := if 12 < pulsesF y then (0, 7) else (numF y, 0)

def pickF (n K : Nat) : List Int → Int → Nat → Int × Int
  | [], i, _ => (-1, i)
  | z :: l, i, j => if i < cnt n (K - (sz13 z).toNat) then ((j : Int), i) else pickF n K l (i - cnt n (K - (sz13 z).toNat)) (j + 1)

/-- How many pulses are left, the number that is left, and the numbers so far. -/
def vst (n : Nat) (k i : Int) : Nat → Int × Int × List Int
  | 0 => (k, i, [])
  | a + 1 =>
    let s := vst n k i a
    let p := pickF (n - a - 1) s.1.toNat (numsF s.1.toNat) s.2.1 0
    let z := (numsF s.1.toNat).getD p.1.toNat 0
    (s.1 - sz13 z, p.2, s.2.2 ++ [z])
def vecF (n k i : Int) : List Int := if mayF n k = true ∧ 0 ≤ i ∧ i < countF n k then (vst n.toNat k i n.toNat).2.2 else []
def vecE (n k i : Int) : Int := if mayF n k then (if 0 ≤ i ∧ i < countF n k then 0 else 7) else 1

def bitLen (m : Nat) : Nat := if m = 0 then 0 else m.log2 + 1
def bitsF (k : Int) : Int := (bitLen (countF 4 k - 1).toNat : Nat)
end Go.SL.S

/- Functions and what they are held to do: bound to their code. -/
namespace Go.SL.A
open Go Go.SL Go.SL.S
set_option maxRecDepth 100000
noncomputable def C91 : Ctx := ⟨Go.Proofs.Try.prog, D, G88, (fun _ _ => none), fun _ => []⟩
def ann91 (_x _n _a _k _i : Int) (_t : List (List Int)) : Nat → St → Option Ann := fun _ _ => none
def out91 (x n a k i : Int) (t : List (List Int)) : COut := ⟨[t = tabF, 0 ≤ n - a - 1 ∧ n ≤ 8 ∧ 0 ≤ a ∧ 0 ≤ k - sz13 x ∧ k ≤ 12 ∧ 0 ≤ i], .v .bool (decide (i < cnt (n - a - 1).toNat (k.toNat - (sz13 x).toNat))), [(4, some ⟨false, true, .int .i64, [if i < cnt (n - a - 1).toNat (k.toNat - (sz13 x).toNat) then i else i - cnt (n - a - 1).toNat (k.toNat - (sz13 x).toNat)]⟩)], []⟩
def sp91 : Spec := fun args ins => match args, ins with
  | [⟨.int .i64, x⟩, ⟨.ref .ptr, .ptr 0 (.ref .ptr) [0]⟩, ⟨.ref .ptr, .ptr 1 (.int .i64) [0]⟩, ⟨.ref .ptr, .ptr 2 (.int .i64) [0]⟩, ⟨.ref .ptr, .ptr 3 (.int .i64) [0]⟩, ⟨.ref .ptr, .ptr 4 (.int .i64) [0]⟩], [⟨false, true, .ref .ptr, [.ptr 5 (.arr 9 (.arr 13 (.int .i64))) [0]]⟩, ⟨false, true, .int .i64, [n]⟩, ⟨false, true, .int .i64, [a]⟩, ⟨false, true, .int .i64, [k]⟩, ⟨false, true, .int .i64, [i]⟩, ⟨false, true, .arr 9 (.arr 13 (.int .i64)), [t]⟩] => some (out91 x n a k i t)
  | _, _ => none
def G91 := addG G88 65 sp91
def P91 (x n a k i : Int) (t : List (List Int)) : Prop :=
  (((0 : Int) ≤ IntKind.wrap IntKind.i64 (IntKind.wrap IntKind.i64 (n - a) - (1 : Int)) ∧ IntKind.wrap IntKind.i64 (IntKind.wrap IntKind.i64 (n - a) - (1 : Int)) < (↑(9 : Nat) : Int)) ∧ ((0 : Int) ≤ IntKind.wrap IntKind.i64
  (k - sz13 x) ∧ IntKind.wrap IntKind.i64 (k - sz13 x) < (↑(13 : Nat) : Int)) ∧ Int.toNat (IntKind.wrap IntKind.i64 (IntKind.wrap IntKind.i64 (n - a) - (1 : Int))) < (9 : Nat) ∧ Int.toNat (IntKind.wrap IntKind.i64 (k - sz13
  x)) < (13 : Nat)) ∧ bif decide (i < List.getD (List.getD t (Int.toNat (IntKind.wrap IntKind.i64 (IntKind.wrap IntKind.i64 (n - a) - (1 : Int)))) (List.replicate (13 : Nat) (0 : Int))) (Int.toNat (IntKind.wrap IntKind.i64
  (k - sz13 x))) (0 : Int)) then true = decide (i < cnt (Int.toNat (n - a - (1 : Int))) (Int.toNat k - Int.toNat (sz13 x))) ∧ (0 : Nat) = (0 : Nat) ∧ false = false ∧ n = n ∧ false = false ∧ a = a ∧ false = false ∧ k = k ∧
  false = false ∧ (i = if i < cnt (Int.toNat (n - a - (1 : Int))) (Int.toNat k - Int.toNat (sz13 x)) then i else i - cnt (Int.toNat (n - a - (1 : Int))) (Int.toNat k - Int.toNat (sz13 x))) ∧ false = false ∧ t = t ∧ false =
  false else false = decide (i < cnt (Int.toNat (n - a - (1 : Int))) (Int.toNat k - Int.toNat (sz13 x))) ∧ (0 : Nat) = (0 : Nat) ∧ false = false ∧ n = n ∧ false = false ∧ a = a ∧ false = false ∧ k = k ∧ false = false ∧
  (IntKind.wrap IntKind.i64 (i - List.getD (List.getD t (Int.toNat (IntKind.wrap IntKind.i64 (IntKind.wrap IntKind.i64 (n - a) - (1 : Int)))) (List.replicate (13 : Nat) (0 : Int))) (Int.toNat (IntKind.wrap IntKind.i64 (k -
  sz13 x))) (0 : Int)) = if i < cnt (Int.toNat (n - a - (1 : Int))) (Int.toNat k - Int.toNat (sz13 x)) then i else i - cnt (Int.toNat (n - a - (1 : Int))) (Int.toNat k - Int.toNat (sz13 x))) ∧ false = false ∧ t = t ∧ false
  = false
theorem vc91 (x n a k i : Int) (t : List (List Int)) : P91 x n a k i t = vcFun C91 (ann91 x n a k i t) Go.Proofs.Try.f65 [⟨.int .i64, x⟩, ⟨.ref .ptr, .ptr 0 (.ref .ptr) [0]⟩, ⟨.ref .ptr, .ptr 1 (.int .i64) [0]⟩, ⟨.ref .ptr, .ptr 2 (.int .i64) [0]⟩, ⟨.ref .ptr, .ptr 3 (.int .i64) [0]⟩, ⟨.ref .ptr, .ptr 4 (.int .i64) [0]⟩] [⟨false, true, .ref .ptr, [.ptr 5 (.arr 9 (.arr 13 (.int .i64))) [0]]⟩, ⟨false, true, .int .i64, [n]⟩, ⟨false, true, .int .i64, [a]⟩, ⟨false, true, .int .i64, [k]⟩, ⟨false, true, .int .i64, [i]⟩, ⟨false, true, .arr 9 (.arr 13 (.int .i64)), [t]⟩] (out91 x n a k i t) := by kernel_rfl

noncomputable def C90 : Ctx := ⟨Go.Proofs.Try.prog, D, G91, (fun _ _ => none), fun _ => []⟩
def ann90 (_r : Bool) (_m : Nat) (n a k i : Int) (l : List Int) (_t : List (List Int)) : Nat → St → Option Ann := fun _ _ => some ⟨Nat, [0, 1, 6, 7], [0, 1, 2, 3, 4, 6], fun j => [(8, .v (.int .i64) (j : Int))], fun j => [(5, some ⟨false, true, .int .i64, [i - sumBy (n - a - 1).toNat k.toNat (l.take j)]⟩)], fun j => j ≤ l.length ∧ pickF (n - a - 1).toNat k.toNat l i 0 = pickF (n - a - 1).toNat k.toNat (l.drop j) (i - sumBy (n - a - 1).toNat k.toNat (l.take j)) j ∧ 0 ≤ i - sumBy (n - a - 1).toNat k.toNat (l.take j), fun j => l.length - j⟩
def out90 (_r : Bool) (m : Nat) (n a k i : Int) (l : List Int) (t : List (List Int)) : COut := ⟨[t = tabF, m = l.length ∧ m ≤ 1000000, 0 ≤ n - a - 1 ∧ n ≤ 8 ∧ 0 ≤ a ∧ (∀ z ∈ l, 0 ≤ k - sz13 z) ∧ k ≤ 12 ∧ 0 ≤ i], .v (.int .i64) (pickF (n - a - 1).toNat k.toNat l i 0).1, [(5, some ⟨false, true, .int .i64, [(pickF (n - a - 1).toNat k.toNat l i 0).2]⟩)], []⟩
def sp90 : Spec := fun args ins => match args, ins with
  | [⟨.ref .slice, .slice 0 (.int .i64) [] 0 m⟩, ⟨.ref .func, .func (.func 65) [] [.ptr 1 (.ref .ptr) [0], .ptr 2 (.int .i64) [0], .ptr 3 (.int .i64) [0], .ptr 4 (.int .i64) [0], .ptr 5 (.int .i64) [0]]⟩], [⟨r, false, .int .i64, l⟩, ⟨false, true, .ref .ptr, [.ptr 6 (.arr 9 (.arr 13 (.int .i64))) [0]]⟩, ⟨false, true, .int .i64, [n]⟩, ⟨false, true, .int .i64, [a]⟩, ⟨false, true, .int .i64, [k]⟩, ⟨false, true, .int .i64, [i]⟩, ⟨false, true, .arr 9 (.arr 13 (.int .i64)), [t]⟩] => some (out90 r m n a k i l t)
  | _, _ => none
def G90 := addG G91 64 sp90
def P90 (r : Bool) (m : Nat) (n a k i : Int) (l : List Int) (t : List (List Int)) : Prop :=
  ∃ (x : Nat), (((0 : Nat) = (0 : Nat) ∧ m = m ∧ (0 : Nat) = (0 : Nat) ∧ (0 : Nat) = (0 : Nat) ∧ (0 : Nat) = (0 : Nat) ∧ (0 : Nat) = (0 : Nat) ∧ (0 : Nat) = (0 : Nat) ∧ (0 : Nat) = (0 : Nat) ∧ m = m ∧ (↑m : Int) = (↑m :
  Int) ∧ (0 : Int) = (↑x : Int) ∧ l = l ∧ r = r ∧ (0 : Nat) = (0 : Nat) ∧ false = false ∧ n = n ∧ false = false ∧ a = a ∧ false = false ∧ k = k ∧ false = false ∧ i = i - sumBy (Int.toNat (n - a - (1 : Int))) (Int.toNat k)
  (List.take x l) ∧ false = false ∧ t = t ∧ false = false) ∧ x ≤ List.length l ∧ pickF (Int.toNat (n - a - (1 : Int))) (Int.toNat k) l i (0 : Nat) = pickF (Int.toNat (n - a - (1 : Int))) (Int.toNat k) (List.drop x l) (i -
  sumBy (Int.toNat (n - a - (1 : Int))) (Int.toNat k) (List.take x l)) x ∧ (0 : Int) ≤ i - sumBy (Int.toNat (n - a - (1 : Int))) (Int.toNat k) (List.take x l)) ∧ ∀ (x : Nat), x ≤ List.length l ∧ pickF (Int.toNat (n - a - (1
  : Int))) (Int.toNat k) l i (0 : Nat) = pickF (Int.toNat (n - a - (1 : Int))) (Int.toNat k) (List.drop x l) (i - sumBy (Int.toNat (n - a - (1 : Int))) (Int.toNat k) (List.take x l)) x ∧ (0 : Int) ≤ i - sumBy (Int.toNat (n
  - a - (1 : Int))) (Int.toNat k) (List.take x l) → (IntKind.min IntKind.i64 ≤ (↑x : Int) ∧ (↑x : Int) ≤ IntKind.max IntKind.i64 ∧ ∀ (y : Int), List.Mem y [i - sumBy (Int.toNat (n - a - (1 : Int))) (Int.toNat k) (List.take
  x l)] → IntKind.min IntKind.i64 ≤ y ∧ y ≤ IntKind.max IntKind.i64) → bif decide ((↑x : Int) < (↑m : Int)) then (((0 : Int) ≤ (↑x : Int) ∧ (↑x : Int) < (↑m : Int)) ∧ (0 : Nat) + Int.toNat (↑x : Int) < List.length l ∧ t =
  tabF ∧ (0 : Int) ≤ n - a - (1 : Int) ∧ n ≤ (8 : Int) ∧ (0 : Int) ≤ a ∧ (0 : Int) ≤ k - sz13 (List.getD l ((0 : Nat) + Int.toNat (↑x : Int)) (0 : Int)) ∧ k ≤ (12 : Int) ∧ (0 : Int) ≤ i - sumBy (Int.toNat (n - a - (1 :
  Int))) (Int.toNat k) (List.take x l)) ∧ bif decide (i - sumBy (Int.toNat (n - a - (1 : Int))) (Int.toNat k) (List.take x l) < cnt (Int.toNat (n - a - (1 : Int))) (Int.toNat k - Int.toNat (sz13 (List.getD l ((0 : Nat) +
  Int.toNat (↑x : Int)) (0 : Int))))) then (↑x : Int) = Prod.fst (pickF (Int.toNat (n - a - (1 : Int))) (Int.toNat k) l i (0 : Nat)) ∧ l = l ∧ r = r ∧ (0 : Nat) = (0 : Nat) ∧ false = false ∧ n = n ∧ false = false ∧ a = a ∧
  false = false ∧ k = k ∧ false = false ∧ (if i - sumBy (Int.toNat (n - a - (1 : Int))) (Int.toNat k) (List.take x l) < cnt (Int.toNat (n - a - (1 : Int))) (Int.toNat k - Int.toNat (sz13 (List.getD l ((0 : Nat) + Int.toNat
  (↑x : Int)) (0 : Int)))) then i - sumBy (Int.toNat (n - a - (1 : Int))) (Int.toNat k) (List.take x l) else i - sumBy (Int.toNat (n - a - (1 : Int))) (Int.toNat k) (List.take x l) - cnt (Int.toNat (n - a - (1 : Int)))
  (Int.toNat k - Int.toNat (sz13 (List.getD l ((0 : Nat) + Int.toNat (↑x : Int)) (0 : Int))))) = Prod.snd (pickF (Int.toNat (n - a - (1 : Int))) (Int.toNat k) l i (0 : Nat)) ∧ false = false ∧ t = t ∧ false = false else ∃ (y
  : Nat), ((0 : Nat) = (0 : Nat) ∧ m = m ∧ (0 : Nat) = (0 : Nat) ∧ (0 : Nat) = (0 : Nat) ∧ (0 : Nat) = (0 : Nat) ∧ (0 : Nat) = (0 : Nat) ∧ (0 : Nat) = (0 : Nat) ∧ (0 : Nat) = (0 : Nat) ∧ m = m ∧ (↑m : Int) = (↑m : Int) ∧
  IntKind.wrap IntKind.i64 ((↑x : Int) + (1 : Int)) = (↑y : Int) ∧ l = l ∧ r = r ∧ (0 : Nat) = (0 : Nat) ∧ false = false ∧ n = n ∧ false = false ∧ a = a ∧ false = false ∧ k = k ∧ false = false ∧ (if i - sumBy (Int.toNat (n
  - a - (1 : Int))) (Int.toNat k) (List.take x l) < cnt (Int.toNat (n - a - (1 : Int))) (Int.toNat k - Int.toNat (sz13 (List.getD l ((0 : Nat) + Int.toNat (↑x : Int)) (0 : Int)))) then i - sumBy (Int.toNat (n - a - (1 :
  Int))) (Int.toNat k) (List.take x l) else i - sumBy (Int.toNat (n - a - (1 : Int))) (Int.toNat k) (List.take x l) - cnt (Int.toNat (n - a - (1 : Int))) (Int.toNat k - Int.toNat (sz13 (List.getD l ((0 : Nat) + Int.toNat
  (↑x : Int)) (0 : Int))))) = i - sumBy (Int.toNat (n - a - (1 : Int))) (Int.toNat k) (List.take y l) ∧ false = false ∧ t = t ∧ false = false) ∧ (y ≤ List.length l ∧ pickF (Int.toNat (n - a - (1 : Int))) (Int.toNat k) l i
  (0 : Nat) = pickF (Int.toNat (n - a - (1 : Int))) (Int.toNat k) (List.drop y l) (i - sumBy (Int.toNat (n - a - (1 : Int))) (Int.toNat k) (List.take y l)) y ∧ (0 : Int) ≤ i - sumBy (Int.toNat (n - a - (1 : Int)))
  (Int.toNat k) (List.take y l)) ∧ List.length l - y < List.length l - x else (-1 : Int) = Prod.fst (pickF (Int.toNat (n - a - (1 : Int))) (Int.toNat k) l i (0 : Nat)) ∧ l = l ∧ r = r ∧ (0 : Nat) = (0 : Nat) ∧ false = false
  ∧ n = n ∧ false = false ∧ a = a ∧ false = false ∧ k = k ∧ false = false ∧ i - sumBy (Int.toNat (n - a - (1 : Int))) (Int.toNat k) (List.take x l) = Prod.snd (pickF (Int.toNat (n - a - (1 : Int))) (Int.toNat k) l i (0 :
  Nat)) ∧ false = false ∧ t = t ∧ false = false
theorem vc90 (r : Bool) (m : Nat) (n a k i : Int) (l : List Int) (t : List (List Int)) : P90 r m n a k i l t = vcFun C90 (ann90 r m n a k i l t) Go.Proofs.Try.f64 [⟨.ref .slice, .slice 0 (.int .i64) [] 0 m⟩, ⟨.ref .func, .func (.func 65) [] [.ptr 1 (.ref .ptr) [0], .ptr 2 (.int .i64) [0], .ptr 3 (.int .i64) [0], .ptr 4 (.int .i64) [0], .ptr 5 (.int .i64) [0]]⟩] [⟨r, false, .int .i64, l⟩, ⟨false, true, .ref .ptr, [.ptr 6 (.arr 9 (.arr 13 (.int .i64))) [0]]⟩, ⟨false, true, .int .i64, [n]⟩, ⟨false, true, .int .i64, [a]⟩, ⟨false, true, .int .i64, [k]⟩, ⟨false, true, .int .i64, [i]⟩, ⟨false, true, .arr 9 (.arr 13 (.int .i64)), [t]⟩] (out90 r m n a k i l t) := by kernel_rfl

end Go.SL.A

namespace Go.SL.A
open Go Go.SL Go.SL.S

theorem tabF_get {a b : Int} (h1 : 0 ≤ a) (h2 : a ≤ 8) (h3 : 0 ≤ b) (h4 : b ≤ 12) : (tabF.getD a.toNat (List.replicate 13 0)).getD b.toNat 0 = cnt a.toNat b.toNat := by
  unfold tabF; rw [tab_get (by omega), row_get (by omega)]

theorem pure91 (x n a k i : Int) (t : List (List Int)) (ht : t = tabF) (hp : 0 ≤ n - a - 1 ∧ n ≤ 8 ∧ 0 ≤ a ∧ 0 ≤ k - sz13 x ∧ k ≤ 12 ∧ 0 ≤ i) (hi : i ≤ 9223372036854775807) : P91 x n a k i t := by
  subst ht
  obtain ⟨h1, h2, h3, h4, h5, h6⟩ := hp
  have hz := sz13_le x
  unfold P91
  have w1 : IntKind.i64.wrap (n - a) = n - a := w64 (by omega) (by omega)
  have w2 : IntKind.i64.wrap (n - a - 1) = n - a - 1 := w64 (by omega) (by omega)
  have w3 : IntKind.i64.wrap (k - sz13 x) = k - sz13 x := w64 (by omega) (by omega)
  have e : k.toNat - (sz13 x).toNat = (k - sz13 x).toNat := by omega
  rw [w1, w2, w3, e, tabF_get h1 (by omega) h4 (by omega)]
  have hc := cnt_fits (n := (n - a - 1).toNat) (k := (k - sz13 x).toNat) (by omega) (by omega)
  generalize cnt (n - a - 1).toNat (k - sz13 x).toNat = c at *
  refine ⟨by omega, ?_⟩
  by_cases h : i < c
  · simp only [h, decide_true, cond_true, if_true, and_self]
  · have w4 : IntKind.i64.wrap (i - c) = i - c := w64 (by omega) (by omega)
    simp only [h, decide_false, cond_false, if_false, and_self, w4]

theorem pure90 (r : Bool) (m : Nat) (n a k i : Int) (l : List Int) (t : List (List Int)) (ht : t = tabF) (hm : m = l.length ∧ m ≤ 1000000) (hp : 0 ≤ n - a - 1 ∧ n ≤ 8 ∧ 0 ≤ a ∧ (∀ z ∈ l, 0 ≤ k - sz13 z) ∧ k ≤ 12 ∧ 0 ≤ i) : P90 r m n a k i l t := by
  subst ht
  obtain ⟨rfl, hm⟩ := hm
  obtain ⟨h1, h2, h3, h4, h5, h6⟩ := hp
  unfold P90
  simp only [eq_self, true_and, and_true, Int.toNat_natCast, Nat.zero_add]
  refine ⟨0, ⟨by simp [sumBy], by simp [sumBy, h6]⟩, fun j hj _ => ?_⟩
  obtain ⟨hj, hpk, hnn⟩ := hj
  by_cases h : (j : Int) < (l.length : Int)
  · have hjl : j < l.length := by omega
    have w : IntKind.i64.wrap ((j : Int) + 1) = ((j + 1 : Nat) : Int) := by rw [w64 (by omega) (by omega)]; simp
    have hz := h4 _ (getD_mem (d := 0) hjl)
    have ed : l.drop j = l.getD j 0 :: l.drop (j + 1) := by
      rw [List.drop_eq_getElem_cons hjl]; simp [hjl]
    have es : sumBy (n - a - 1).toNat k.toNat (l.take (j + 1)) = sumBy (n - a - 1).toNat k.toNat (l.take j) + cnt (n - a - 1).toNat (k.toNat - (sz13 (l.getD j 0)).toNat) := by
      rw [take_snoc' 0 hjl]
      have : ∀ (p : List Int) (z : Int) (N K : Nat), sumBy N K (p ++ [z]) = sumBy N K p + cnt N (K - (sz13 z).toNat) := by
        intro p z N K
        induction p with
        | nil => simp [sumBy]
        | cons x p ih => simp only [List.cons_append, sumBy, ih]; omega
      exact this _ _ _ _
    rw [ed, pickF] at hpk
    simp only [h, decide_true, cond_true]
    generalize sumBy (n - a - 1).toNat k.toNat (l.take j) = s at *
    generalize cnt (n - a - 1).toNat (k.toNat - (sz13 (l.getD j 0)).toNat) = c at *
    refine ⟨⟨by simp, hjl, h1, h2, h3, hz, h5, hnn⟩, ?_⟩
    by_cases hc : i - s < c
    · rw [if_pos hc] at hpk
      simp only [hc, decide_true, cond_true, if_true, hpk, and_self]
    · rw [if_neg hc] at hpk
      simp only [hc, decide_false, cond_false, if_false]
      refine ⟨j + 1, ⟨w, by rw [es]; omega⟩, ⟨by omega, ?_, by rw [es]; omega⟩, by omega⟩
      rw [hpk, es]; congr 1; omega
  · have : j = l.length := by omega
    subst this
    simp only [h, decide_false, cond_false]
    rw [hpk, List.drop_length]
    simp [pickF]

theorem hw91 {x n a k i : Int} {t : List (List Int)} (hw : allP (List.flatMap (fun a : AV => a.t.wf a.x) [⟨.int .i64, x⟩, ⟨.ref .ptr, .ptr 0 (.ref .ptr) [0]⟩, ⟨.ref .ptr, .ptr 1 (.int .i64) [0]⟩, ⟨.ref .ptr, .ptr 2 (.int .i64) [0]⟩, ⟨.ref .ptr, .ptr 3 (.int .i64) [0]⟩, ⟨.ref .ptr, .ptr 4 (.int .i64) [0]⟩] ++ List.flatMap Blk.wf [⟨false, true, .ref .ptr, [.ptr 5 (.arr 9 (.arr 13 (.int .i64))) [0]]⟩, ⟨false, true, .int .i64, [n]⟩, ⟨false, true, .int .i64, [a]⟩, ⟨false, true, .int .i64, [k]⟩, ⟨false, true, .int .i64, [i]⟩, ⟨false, true, .arr 9 (.arr 13 (.int .i64)), [t]⟩])) : i ≤ 9223372036854775807 := by
  simp only [List.flatMap_cons, List.flatMap_nil, Ty.wf, Blk.wf, List.append_nil, List.cons_append, List.nil_append, allP] at hw
  exact (hw.2.2.2.2.2.2.1 i (by simp)).2

end Go.SL.A

/- Functions do what they are held to do. -/
namespace Go.SL.A
open Go Go.SL Go.SL.S
theorem snd91 : Sound Go.Proofs.Try.prog G91 := snd88.add ⟨_, Go.Proofs.Try.func65, by kernel_rfl, by kernel_rfl⟩ (by
  intro args ins out h hp
  unfold sp91 at h
  split at h
  · rename_i x n a k i t
    cases h
    exact vcFun_ok (C := C91) good snd88 Meth.none mix Go.Proofs.Try.func65 (ann91 x n a k i t) (fun hw => by rw [← vc91 x n a k i t]; exact pure91 x n a k i t hp.1 hp.2 (hw91 hw))
  · cases h)

theorem snd90 : Sound Go.Proofs.Try.prog G90 := snd91.add ⟨_, Go.Proofs.Try.func64, by kernel_rfl, by kernel_rfl⟩ (by
  intro args ins out h hp
  unfold sp90 at h
  split at h
  · rename_i m r l n a k i t
    cases h
    exact vcFun_ok (C := C90) good snd91 Meth.none mix Go.Proofs.Try.func64 (ann90 r m n a k i l t) (fun hw => by rw [← vc90 r m n a k i l t]; exact pure90 r m n a k i l t hp.1 hp.2.1 hp.2.2)
  · cases h)

end Go.SL.A

/- Functions and what they are held to do: bound to their code. -/
namespace Go.SL.A
open Go Go.SL Go.SL.S
set_option maxRecDepth 100000
noncomputable def C45 : Ctx := ⟨Go.Proofs.Try.prog, D, G90, (fun _ _ => none), fun _ => []⟩
def ann45 (n k i : Int) : Nat → St → Option Ann := fun _ _ => some ⟨Nat, [3, 4, 5, 8, 29], [0, 3, 4], fun a => [(30, .v (.int .i64) (a : Int)), (9, .v (.ref .slice) (.slice 5 (.int .i64) [] 0 a))], fun a => [(1, some ⟨false, true, .int .i64, [(vst n.toNat k i a).1]⟩), (2, some ⟨false, true, .int .i64, [(vst n.toNat k i a).2.1]⟩), (5, some ⟨false, false, .int .i64, (vst n.toNat k i a).2.2⟩)], fun a => a ≤ n.toNat, fun a => n.toNat - a⟩
def out45 (n k i : Int) : COut := ⟨[], .tup [⟨.ref .slice, .slice 0 (.int .i64) [] 0 (vecF n k i).length⟩, ⟨.int .i64, vecE n k i⟩], [], [⟨false, false, .int .i64, vecF n k i⟩]⟩
def sp45 : Spec := fun args ins => match args, ins with
  | [⟨.int .i64, n⟩, ⟨.int .i64, k⟩, ⟨.int .i64, i⟩], [] => some (out45 n k i)
  | _, _ => none
def G45 := addG G90 35 sp45
def P45 (n k i : Int) : Prop :=
  bif !mayF n k then List.length (vecF n k i) = (0 : Nat) ∧ (1 : Int) = vecE n k i ∧ vecF n k i = [] else bif decide (i < (0 : Int)) then (true = false → false = true) ∧ List.length (vecF n k i) = (0 : Nat) ∧ (7 : Int) =
  vecE n k i ∧ vecF n k i = [] else bif decide (countF n k ≤ i) then List.length (vecF n k i) = (0 : Nat) ∧ (7 : Int) = vecE n k i ∧ vecF n k i = [] else ∃ (x : Nat), (((0 : Nat) = (0 : Nat) ∧ (0 : Nat) = (0 : Nat) ∧ (0 :
  Nat) = (0 : Nat) ∧ (0 : Nat) = (0 : Nat) ∧ x = (0 : Nat) ∧ n = n ∧ (0 : Int) = (↑x : Int) ∧ n = n ∧ false = false ∧ k = Prod.fst (vst (Int.toNat n) k i x) ∧ false = false ∧ i = Prod.fst (Prod.snd (vst (Int.toNat n) k i
  x)) ∧ false = false ∧ tabF = tabF ∧ false = false ∧ (0 : Nat) = (0 : Nat) ∧ false = false ∧ Prod.snd (Prod.snd (vst (Int.toNat n) k i x)) = []) ∧ x ≤ Int.toNat n) ∧ ∀ (x : Nat), x ≤ Int.toNat n → (IntKind.min IntKind.i64
  ≤ (↑x : Int) ∧ (↑x : Int) ≤ IntKind.max IntKind.i64 ∧ (∀ (y : Int), List.Mem y [Prod.fst (vst (Int.toNat n) k i x)] → IntKind.min IntKind.i64 ≤ y ∧ y ≤ IntKind.max IntKind.i64) ∧ (∀ (y : Int), List.Mem y [Prod.fst
  (Prod.snd (vst (Int.toNat n) k i x))] → IntKind.min IntKind.i64 ≤ y ∧ y ≤ IntKind.max IntKind.i64) ∧ ∀ (y : Int), List.Mem y (Prod.snd (Prod.snd (vst (Int.toNat n) k i x))) → IntKind.min IntKind.i64 ≤ y ∧ y ≤ IntKind.max
  IntKind.i64) → bif decide ((↑x : Int) < n) then Prod.fst (vst (Int.toNat n) k i x) ≤ (1000000 : Int) ∧ (tabF = tabF ∧ ((2 : Nat) * Int.toNat (Prod.fst (vst (Int.toNat n) k i x)) + (1 : Nat) = List.length (numsF (Int.toNat
  (Prod.fst (vst (Int.toNat n) k i x)))) ∧ (2 : Nat) * Int.toNat (Prod.fst (vst (Int.toNat n) k i x)) + (1 : Nat) ≤ (1000000 : Nat)) ∧ (0 : Int) ≤ n - (↑x : Int) - (1 : Int) ∧ n ≤ (8 : Int) ∧ (0 : Int) ≤ (↑x : Int) ∧ (∀ (z
  : Int), List.Mem z (numsF (Int.toNat (Prod.fst (vst (Int.toNat n) k i x)))) → (0 : Int) ≤ Prod.fst (vst (Int.toNat n) k i x) - sz13 z) ∧ Prod.fst (vst (Int.toNat n) k i x) ≤ (12 : Int) ∧ (0 : Int) ≤ Prod.fst (Prod.snd
  (vst (Int.toNat n) k i x))) ∧ (((0 : Int) ≤ Prod.fst (pickF (Int.toNat (n - (↑x : Int) - (1 : Int))) (Int.toNat (Prod.fst (vst (Int.toNat n) k i x))) (numsF (Int.toNat (Prod.fst (vst (Int.toNat n) k i x)))) (Prod.fst
  (Prod.snd (vst (Int.toNat n) k i x))) (0 : Nat)) ∧ Prod.fst (pickF (Int.toNat (n - (↑x : Int) - (1 : Int))) (Int.toNat (Prod.fst (vst (Int.toNat n) k i x))) (numsF (Int.toNat (Prod.fst (vst (Int.toNat n) k i x))))
  (Prod.fst (Prod.snd (vst (Int.toNat n) k i x))) (0 : Nat)) < (↑((2 : Nat) * Int.toNat (Prod.fst (vst (Int.toNat n) k i x)) + (1 : Nat)) : Int)) ∧ (0 : Nat) + Int.toNat (Prod.fst (pickF (Int.toNat (n - (↑x : Int) - (1 :
  Int))) (Int.toNat (Prod.fst (vst (Int.toNat n) k i x))) (numsF (Int.toNat (Prod.fst (vst (Int.toNat n) k i x)))) (Prod.fst (Prod.snd (vst (Int.toNat n) k i x))) (0 : Nat))) < List.length (numsF (Int.toNat (Prod.fst (vst
  (Int.toNat n) k i x)))) ∧ (1 : Nat) ≤ (1 : Nat) ∧ (0 : Nat) + x = List.length (Prod.snd (Prod.snd (vst (Int.toNat n) k i x))) ∧ (x + List.length (seg (List.getD (numsF (Int.toNat (Prod.fst (vst (Int.toNat n) k i x)))) ((0
  : Nat) + Int.toNat (Prod.fst (pickF (Int.toNat (n - (↑x : Int) - (1 : Int))) (Int.toNat (Prod.fst (vst (Int.toNat n) k i x))) (numsF (Int.toNat (Prod.fst (vst (Int.toNat n) k i x)))) (Prod.fst (Prod.snd (vst (Int.toNat n)
  k i x))) (0 : Nat)))) (0 : Int) :: List.replicate (nat_lit 0) (0 : Int)) (0 : Nat) (1 : Nat))) * (8 : Nat) ≤ (70368744177664 : Nat)) ∧ (((0 : Int) ≤ Prod.fst (pickF (Int.toNat (n - (↑x : Int) - (1 : Int))) (Int.toNat
  (Prod.fst (vst (Int.toNat n) k i x))) (numsF (Int.toNat (Prod.fst (vst (Int.toNat n) k i x)))) (Prod.fst (Prod.snd (vst (Int.toNat n) k i x))) (0 : Nat)) ∧ Prod.fst (pickF (Int.toNat (n - (↑x : Int) - (1 : Int)))
  (Int.toNat (Prod.fst (vst (Int.toNat n) k i x))) (numsF (Int.toNat (Prod.fst (vst (Int.toNat n) k i x)))) (Prod.fst (Prod.snd (vst (Int.toNat n) k i x))) (0 : Nat)) < (↑((2 : Nat) * Int.toNat (Prod.fst (vst (Int.toNat n)
  k i x)) + (1 : Nat)) : Int)) ∧ (0 : Nat) + Int.toNat (Prod.fst (pickF (Int.toNat (n - (↑x : Int) - (1 : Int))) (Int.toNat (Prod.fst (vst (Int.toNat n) k i x))) (numsF (Int.toNat (Prod.fst (vst (Int.toNat n) k i x))))
  (Prod.fst (Prod.snd (vst (Int.toNat n) k i x))) (0 : Nat))) < List.length (numsF (Int.toNat (Prod.fst (vst (Int.toNat n) k i x))))) ∧ ∃ (y : Nat), ((0 : Nat) = (0 : Nat) ∧ (0 : Nat) = (0 : Nat) ∧ (0 : Nat) = (0 : Nat) ∧
  (0 : Nat) = (0 : Nat) ∧ (0 : Nat) = (0 : Nat) ∧ x + List.length (seg (List.getD (numsF (Int.toNat (Prod.fst (vst (Int.toNat n) k i x)))) ((0 : Nat) + Int.toNat (Prod.fst (pickF (Int.toNat (n - (↑x : Int) - (1 : Int)))
  (Int.toNat (Prod.fst (vst (Int.toNat n) k i x))) (numsF (Int.toNat (Prod.fst (vst (Int.toNat n) k i x)))) (Prod.fst (Prod.snd (vst (Int.toNat n) k i x))) (0 : Nat)))) (0 : Int) :: List.replicate (nat_lit 0) (0 : Int)) (0
  : Nat) (1 : Nat)) = y ∧ n = n ∧ IntKind.wrap IntKind.i64 ((↑x : Int) + (1 : Int)) = (↑y : Int) ∧ n = n ∧ false = false ∧ IntKind.wrap IntKind.i64 (Prod.fst (vst (Int.toNat n) k i x) - sz13 (List.getD (numsF (Int.toNat
  (Prod.fst (vst (Int.toNat n) k i x)))) ((0 : Nat) + Int.toNat (Prod.fst (pickF (Int.toNat (n - (↑x : Int) - (1 : Int))) (Int.toNat (Prod.fst (vst (Int.toNat n) k i x))) (numsF (Int.toNat (Prod.fst (vst (Int.toNat n) k i
  x)))) (Prod.fst (Prod.snd (vst (Int.toNat n) k i x))) (0 : Nat)))) (0 : Int))) = Prod.fst (vst (Int.toNat n) k i y) ∧ false = false ∧ Prod.snd (pickF (Int.toNat (n - (↑x : Int) - (1 : Int))) (Int.toNat (Prod.fst (vst
  (Int.toNat n) k i x))) (numsF (Int.toNat (Prod.fst (vst (Int.toNat n) k i x)))) (Prod.fst (Prod.snd (vst (Int.toNat n) k i x))) (0 : Nat)) = Prod.fst (Prod.snd (vst (Int.toNat n) k i y)) ∧ false = false ∧ tabF = tabF ∧
  false = false ∧ (0 : Nat) = (0 : Nat) ∧ false = false ∧ List.append (List.drop (0 : Nat) (Prod.snd (Prod.snd (vst (Int.toNat n) k i x)))) (seg (List.getD (numsF (Int.toNat (Prod.fst (vst (Int.toNat n) k i x)))) ((0 : Nat)
  + Int.toNat (Prod.fst (pickF (Int.toNat (n - (↑x : Int) - (1 : Int))) (Int.toNat (Prod.fst (vst (Int.toNat n) k i x))) (numsF (Int.toNat (Prod.fst (vst (Int.toNat n) k i x)))) (Prod.fst (Prod.snd (vst (Int.toNat n) k i
  x))) (0 : Nat)))) (0 : Int) :: List.replicate (nat_lit 0) (0 : Int)) (0 : Nat) (1 : Nat)) = Prod.snd (Prod.snd (vst (Int.toNat n) k i y)) ∧ false = false) ∧ y ≤ Int.toNat n ∧ Int.toNat n - y < Int.toNat n - x else (0 :
  Nat) = (0 : Nat) ∧ x = List.length (vecF n k i) ∧ (0 : Int) = vecE n k i ∧ Prod.snd (Prod.snd (vst (Int.toNat n) k i x)) = vecF n k i ∧ false = false
theorem vc45 (n k i : Int) : P45 n k i = vcFun C45 (ann45 n k i) Go.Proofs.Try.f35 [⟨.int .i64, n⟩, ⟨.int .i64, k⟩, ⟨.int .i64, i⟩] [] (out45 n k i) := by kernel_rfl

noncomputable def C43 : Ctx := ⟨Go.Proofs.Try.prog, D, G45, (fun _ _ => none), fun _ => []⟩
def ann43 (_r : Bool) (_n : Nat) (y : List Int) : Nat → St → Option Ann := fun id S => match id with | 0 => some ⟨Nat, [0, 5, 17, 18], [0, 1], fun a => [(19, .v (.int .i64) (a : Int)), (4, .v (.int .i64) (sumSz (y.drop a))), (6, .v (.int .i64) (numF y - numF (y.drop a)))], fun _ => [], fun a => a ≤ y.length, fun a => y.length - a⟩ | _ => some ⟨Nat, [0, 4, 5, 7, 8, 17, 18, 19, 30, 31], [0, 1, 2], fun j => [(32, .v (.int .i64) (j : Int)), (6, .v (.int .i64) (S.i 6 + sumBy (y.length - (S.i 7).toNat - 1) (S.i 4).toNat ((numsF (S.i 4).toNat).take j)))], fun _ => [], fun j => j ≤ (idxF (numsF (S.i 4).toNat) (S.i 8)).toNat, fun j => (idxF (numsF (S.i 4).toNat) (S.i 8)).toNat - j⟩
def out43 (_r : Bool) (n : Nat) (y : List Int) : COut := ⟨[n = y.length], .tup [⟨.int .i64, (indexF y).1⟩, ⟨.int .i64, (indexF y).2⟩], [], []⟩
def sp43 : Spec := fun args ins => match args, ins with
  | [⟨.ref .slice, .slice 0 (.int .i64) [] 0 n⟩], [⟨r, false, .int .i64, y⟩] => some (out43 r n y)
  | _, _ => none
def G43 := addG G45 22 sp43
def P43 (r : Bool) (n : Nat) (y : List Int) : Prop :=
  n = List.length y ∧ bif decide ((12 : Int) < pulsesF y) then (0 : Int) = Prod.fst (indexF y) ∧ (7 : Int) = Prod.snd (indexF y) ∧ y = y ∧ r = r else ∃ (x : Nat), (((0 : Nat) = (0 : Nat) ∧ n = n ∧ pulsesF y = sumSz
  (List.drop x y) ∧ (0 : Nat) = (0 : Nat) ∧ (0 : Int) = numF y - numF (List.drop x y) ∧ (0 : Nat) = (0 : Nat) ∧ n = n ∧ (↑n : Int) = (↑n : Int) ∧ (0 : Int) = (↑x : Int) ∧ y = y ∧ r = r ∧ tabF = tabF ∧ false = false) ∧ x ≤
  List.length y) ∧ ∀ (x : Nat), x ≤ List.length y → IntKind.min IntKind.i64 ≤ (↑x : Int) ∧ (↑x : Int) ≤ IntKind.max IntKind.i64 ∧ IntKind.min IntKind.i64 ≤ sumSz (List.drop x y) ∧ sumSz (List.drop x y) ≤ IntKind.max
  IntKind.i64 ∧ IntKind.min IntKind.i64 ≤ numF y - numF (List.drop x y) ∧ numF y - numF (List.drop x y) ≤ IntKind.max IntKind.i64 → bif decide ((↑x : Int) < (↑n : Int)) then (((0 : Int) ≤ (↑x : Int) ∧ (↑x : Int) < (↑n :
  Int)) ∧ (0 : Nat) + Int.toNat (↑x : Int) < List.length y) ∧ sumSz (List.drop x y) ≤ (1000000 : Int) ∧ ((2 : Nat) * Int.toNat (sumSz (List.drop x y)) + (1 : Nat) ≤ List.length (numsF (Int.toNat (sumSz (List.drop x y)))) ∧
  (2 : Nat) * Int.toNat (sumSz (List.drop x y)) + (1 : Nat) ≤ (1000000000 : Nat) ∧ (0 : Int) ≤ idxF (List.take ((2 : Nat) * Int.toNat (sumSz (List.drop x y)) + (1 : Nat)) (numsF (Int.toNat (sumSz (List.drop x y)))))
  (List.getD y ((0 : Nat) + Int.toNat (↑x : Int)) (0 : Int)) ∧ idxF (List.take ((2 : Nat) * Int.toNat (sumSz (List.drop x y)) + (1 : Nat)) (numsF (Int.toNat (sumSz (List.drop x y))))) (List.getD y ((0 : Nat) + Int.toNat (↑x
  : Int)) (0 : Int)) ≤ (↑((2 : Nat) * Int.toNat (sumSz (List.drop x y)) + (1 : Nat)) : Int)) ∧ ∃ (x_1 : Nat), (((0 : Nat) = (0 : Nat) ∧ n = n ∧ sumSz (List.drop x y) = sumSz (List.drop x y) ∧ (0 : Nat) = (0 : Nat) ∧ numF y
  - numF (List.drop x y) = numF y - numF (List.drop x y) + sumBy (List.length y - Int.toNat (↑x : Int) - (1 : Nat)) (Int.toNat (sumSz (List.drop x y))) (List.take x_1 (numsF (Int.toNat (sumSz (List.drop x y))))) ∧ (↑x :
  Int) = (↑x : Int) ∧ List.getD y ((0 : Nat) + Int.toNat (↑x : Int)) (0 : Int) = List.getD y ((0 : Nat) + Int.toNat (↑x : Int)) (0 : Int) ∧ (0 : Nat) = (0 : Nat) ∧ n = n ∧ (↑n : Int) = (↑n : Int) ∧ (↑x : Int) = (↑x : Int) ∧
  (0 : Nat) = (0 : Nat) ∧ Int.toNat (idxF (List.take ((2 : Nat) * Int.toNat (sumSz (List.drop x y)) + (1 : Nat)) (numsF (Int.toNat (sumSz (List.drop x y))))) (List.getD y ((0 : Nat) + Int.toNat (↑x : Int)) (0 : Int))) - (0
  : Nat) = Int.toNat (idxF (List.take ((2 : Nat) * Int.toNat (sumSz (List.drop x y)) + (1 : Nat)) (numsF (Int.toNat (sumSz (List.drop x y))))) (List.getD y ((0 : Nat) + Int.toNat (↑x : Int)) (0 : Int))) - (0 : Nat) ∧
  (↑(Int.toNat (idxF (List.take ((2 : Nat) * Int.toNat (sumSz (List.drop x y)) + (1 : Nat)) (numsF (Int.toNat (sumSz (List.drop x y))))) (List.getD y ((0 : Nat) + Int.toNat (↑x : Int)) (0 : Int))) - (0 : Nat)) : Int) =
  (↑(Int.toNat (idxF (List.take ((2 : Nat) * Int.toNat (sumSz (List.drop x y)) + (1 : Nat)) (numsF (Int.toNat (sumSz (List.drop x y))))) (List.getD y ((0 : Nat) + Int.toNat (↑x : Int)) (0 : Int))) - (0 : Nat)) : Int) ∧ (0 :
  Int) = (↑x_1 : Int) ∧ y = y ∧ r = r ∧ tabF = tabF ∧ false = false ∧ numsF (Int.toNat (sumSz (List.drop x y))) = numsF (Int.toNat (sumSz (List.drop x y))) ∧ false = false) ∧ x_1 ≤ Int.toNat (idxF (numsF (Int.toNat (sumSz
  (List.drop x y)))) (List.getD y ((0 : Nat) + Int.toNat (↑x : Int)) (0 : Int)))) ∧ ∀ (x_2 : Nat), x_2 ≤ Int.toNat (idxF (numsF (Int.toNat (sumSz (List.drop x y)))) (List.getD y ((0 : Nat) + Int.toNat (↑x : Int)) (0 :
  Int))) → IntKind.min IntKind.i64 ≤ (↑x_2 : Int) ∧ (↑x_2 : Int) ≤ IntKind.max IntKind.i64 ∧ IntKind.min IntKind.i64 ≤ numF y - numF (List.drop x y) + sumBy (List.length y - Int.toNat (↑x : Int) - (1 : Nat)) (Int.toNat
  (sumSz (List.drop x y))) (List.take x_2 (numsF (Int.toNat (sumSz (List.drop x y))))) ∧ numF y - numF (List.drop x y) + sumBy (List.length y - Int.toNat (↑x : Int) - (1 : Nat)) (Int.toNat (sumSz (List.drop x y)))
  (List.take x_2 (numsF (Int.toNat (sumSz (List.drop x y))))) ≤ IntKind.max IntKind.i64 → bif decide ((↑x_2 : Int) < (↑(Int.toNat (idxF (List.take ((2 : Nat) * Int.toNat (sumSz (List.drop x y)) + (1 : Nat)) (numsF
  (Int.toNat (sumSz (List.drop x y))))) (List.getD y ((0 : Nat) + Int.toNat (↑x : Int)) (0 : Int))) - (0 : Nat)) : Int)) then (((0 : Int) ≤ (↑x_2 : Int) ∧ (↑x_2 : Int) < (↑(Int.toNat (idxF (List.take ((2 : Nat) * Int.toNat
  (sumSz (List.drop x y)) + (1 : Nat)) (numsF (Int.toNat (sumSz (List.drop x y))))) (List.getD y ((0 : Nat) + Int.toNat (↑x : Int)) (0 : Int))) - (0 : Nat)) : Int)) ∧ (0 : Nat) + Int.toNat (↑x_2 : Int) < List.length (numsF
  (Int.toNat (sumSz (List.drop x y))))) ∧ (((0 : Int) ≤ IntKind.wrap IntKind.i64 (IntKind.wrap IntKind.i64 ((↑n : Int) - (↑x : Int)) - (1 : Int)) ∧ IntKind.wrap IntKind.i64 (IntKind.wrap IntKind.i64 ((↑n : Int) - (↑x :
  Int)) - (1 : Int)) < (↑(9 : Nat) : Int)) ∧ ((0 : Int) ≤ IntKind.wrap IntKind.i64 (sumSz (List.drop x y) - sz13 (List.getD (numsF (Int.toNat (sumSz (List.drop x y)))) ((0 : Nat) + Int.toNat (↑x_2 : Int)) (0 : Int))) ∧
  IntKind.wrap IntKind.i64 (sumSz (List.drop x y) - sz13 (List.getD (numsF (Int.toNat (sumSz (List.drop x y)))) ((0 : Nat) + Int.toNat (↑x_2 : Int)) (0 : Int))) < (↑(13 : Nat) : Int)) ∧ Int.toNat (IntKind.wrap IntKind.i64
  (IntKind.wrap IntKind.i64 ((↑n : Int) - (↑x : Int)) - (1 : Int))) < (9 : Nat) ∧ Int.toNat (IntKind.wrap IntKind.i64 (sumSz (List.drop x y) - sz13 (List.getD (numsF (Int.toNat (sumSz (List.drop x y)))) ((0 : Nat) +
  Int.toNat (↑x_2 : Int)) (0 : Int)))) < (13 : Nat)) ∧ ∃ (y_1 : Nat), ((0 : Nat) = (0 : Nat) ∧ n = n ∧ sumSz (List.drop x y) = sumSz (List.drop x y) ∧ (0 : Nat) = (0 : Nat) ∧ IntKind.wrap IntKind.i64 (numF y - numF
  (List.drop x y) + sumBy (List.length y - Int.toNat (↑x : Int) - (1 : Nat)) (Int.toNat (sumSz (List.drop x y))) (List.take x_2 (numsF (Int.toNat (sumSz (List.drop x y))))) + List.getD (List.getD tabF (Int.toNat
  (IntKind.wrap IntKind.i64 (IntKind.wrap IntKind.i64 ((↑n : Int) - (↑x : Int)) - (1 : Int)))) (List.replicate (13 : Nat) (0 : Int))) (Int.toNat (IntKind.wrap IntKind.i64 (sumSz (List.drop x y) - sz13 (List.getD (numsF
  (Int.toNat (sumSz (List.drop x y)))) ((0 : Nat) + Int.toNat (↑x_2 : Int)) (0 : Int))))) (0 : Int)) = numF y - numF (List.drop x y) + sumBy (List.length y - Int.toNat (↑x : Int) - (1 : Nat)) (Int.toNat (sumSz (List.drop x
  y))) (List.take y_1 (numsF (Int.toNat (sumSz (List.drop x y))))) ∧ (↑x : Int) = (↑x : Int) ∧ List.getD y ((0 : Nat) + Int.toNat (↑x : Int)) (0 : Int) = List.getD y ((0 : Nat) + Int.toNat (↑x : Int)) (0 : Int) ∧ (0 : Nat)
  = (0 : Nat) ∧ n = n ∧ (↑n : Int) = (↑n : Int) ∧ (↑x : Int) = (↑x : Int) ∧ (0 : Nat) = (0 : Nat) ∧ Int.toNat (idxF (List.take ((2 : Nat) * Int.toNat (sumSz (List.drop x y)) + (1 : Nat)) (numsF (Int.toNat (sumSz (List.drop
  x y))))) (List.getD y ((0 : Nat) + Int.toNat (↑x : Int)) (0 : Int))) - (0 : Nat) = Int.toNat (idxF (List.take ((2 : Nat) * Int.toNat (sumSz (List.drop x y)) + (1 : Nat)) (numsF (Int.toNat (sumSz (List.drop x y)))))
  (List.getD y ((0 : Nat) + Int.toNat (↑x : Int)) (0 : Int))) - (0 : Nat) ∧ (↑(Int.toNat (idxF (List.take ((2 : Nat) * Int.toNat (sumSz (List.drop x y)) + (1 : Nat)) (numsF (Int.toNat (sumSz (List.drop x y))))) (List.getD y
  ((0 : Nat) + Int.toNat (↑x : Int)) (0 : Int))) - (0 : Nat)) : Int) = (↑(Int.toNat (idxF (List.take ((2 : Nat) * Int.toNat (sumSz (List.drop x y)) + (1 : Nat)) (numsF (Int.toNat (sumSz (List.drop x y))))) (List.getD y ((0
  : Nat) + Int.toNat (↑x : Int)) (0 : Int))) - (0 : Nat)) : Int) ∧ IntKind.wrap IntKind.i64 ((↑x_2 : Int) + (1 : Int)) = (↑y_1 : Int) ∧ y = y ∧ r = r ∧ tabF = tabF ∧ false = false ∧ numsF (Int.toNat (sumSz (List.drop x y)))
  = numsF (Int.toNat (sumSz (List.drop x y))) ∧ false = false) ∧ y_1 ≤ Int.toNat (idxF (numsF (Int.toNat (sumSz (List.drop x y)))) (List.getD y ((0 : Nat) + Int.toNat (↑x : Int)) (0 : Int))) ∧ Int.toNat (idxF (numsF
  (Int.toNat (sumSz (List.drop x y)))) (List.getD y ((0 : Nat) + Int.toNat (↑x : Int)) (0 : Int))) - y_1 < Int.toNat (idxF (numsF (Int.toNat (sumSz (List.drop x y)))) (List.getD y ((0 : Nat) + Int.toNat (↑x : Int)) (0 :
  Int))) - x_2 else ∃ (y_1 : Nat), ((0 : Nat) = (0 : Nat) ∧ n = n ∧ IntKind.wrap IntKind.i64 (sumSz (List.drop x y) - sz13 (List.getD y ((0 : Nat) + Int.toNat (↑x : Int)) (0 : Int))) = sumSz (List.drop y_1 y) ∧ (0 : Nat) =
  (0 : Nat) ∧ numF y - numF (List.drop x y) + sumBy (List.length y - Int.toNat (↑x : Int) - (1 : Nat)) (Int.toNat (sumSz (List.drop x y))) (List.take x_2 (numsF (Int.toNat (sumSz (List.drop x y))))) = numF y - numF
  (List.drop y_1 y) ∧ (0 : Nat) = (0 : Nat) ∧ n = n ∧ (↑n : Int) = (↑n : Int) ∧ IntKind.wrap IntKind.i64 ((↑x : Int) + (1 : Int)) = (↑y_1 : Int) ∧ y = y ∧ r = r ∧ tabF = tabF ∧ false = false) ∧ y_1 ≤ List.length y ∧
  List.length y - y_1 < List.length y - x else numF y - numF (List.drop x y) = Prod.fst (indexF y) ∧ (0 : Int) = Prod.snd (indexF y) ∧ y = y ∧ r = r
theorem vc43 (r : Bool) (n : Nat) (y : List Int) : P43 r n y = vcFun C43 (ann43 r n y) Go.Proofs.Try.f22 [⟨.ref .slice, .slice 0 (.int .i64) [] 0 n⟩] [⟨r, false, .int .i64, y⟩] (out43 r n y) := by kernel_rfl

noncomputable def C42 : Ctx := ⟨Go.Proofs.Try.prog, D, G43, (fun _ _ => none), fun _ => []⟩
def ann42 (k : Int) : Nat → St → Option Ann := fun _ _ => some ⟨Nat × Int, [], [], fun x => [(3, .v (.int .i64) (x.1 : Int)), (4, .v (.int .i64) x.2)], fun _ => [], fun x => x.1 + bitLen x.2.toNat = bitLen (countF 4 k - 1).toNat ∧ x.2 ≤ 10000000000, fun x => x.2.toNat⟩
def out42 (k : Int) : COut := ⟨[], .v (.int .i64) (bitsF k), [], []⟩
def sp42 : Spec := fun args ins => match args, ins with
  | [⟨.int .i64, k⟩], [] => some (out42 k)
  | _, _ => none
def G42 := addG G43 23 sp42
def P42 (k : Int) : Prop :=
  ∃ (x : Nat × Int), (((0 : Int) = (↑(Prod.fst x) : Int) ∧ IntKind.wrap IntKind.i64 (countF (4 : Int) k - (1 : Int)) = Prod.snd x) ∧ Prod.fst x + bitLen (Int.toNat (Prod.snd x)) = bitLen (Int.toNat (countF (4 : Int) k - (1
  : Int))) ∧ Prod.snd x ≤ (10000000000 : Int)) ∧ ∀ (x : Nat × Int), Prod.fst x + bitLen (Int.toNat (Prod.snd x)) = bitLen (Int.toNat (countF (4 : Int) k - (1 : Int))) ∧ Prod.snd x ≤ (10000000000 : Int) → IntKind.min
  IntKind.i64 ≤ (↑(Prod.fst x) : Int) ∧ (↑(Prod.fst x) : Int) ≤ IntKind.max IntKind.i64 ∧ IntKind.min IntKind.i64 ≤ Prod.snd x ∧ Prod.snd x ≤ IntKind.max IntKind.i64 → bif decide ((0 : Int) < Prod.snd x) then (0 : Int) ≤ (1
  : Int) ∧ ∃ (y : Nat × Int), (IntKind.wrap IntKind.i64 ((↑(Prod.fst x) : Int) + (1 : Int)) = (↑(Prod.fst y) : Int) ∧ ishr IntKind.i64 (Prod.snd x) (1 : Int) = Prod.snd y) ∧ (Prod.fst y + bitLen (Int.toNat (Prod.snd y)) =
  bitLen (Int.toNat (countF (4 : Int) k - (1 : Int))) ∧ Prod.snd y ≤ (10000000000 : Int)) ∧ Int.toNat (Prod.snd y) < Int.toNat (Prod.snd x) else (↑(Prod.fst x) : Int) = bitsF k
theorem vc42 (k : Int) : P42 k = vcFun C42 (ann42 k) Go.Proofs.Try.f23 [⟨.int .i64, k⟩] [] (out42 k) := by kernel_rfl

end Go.SL.A

/- Vectors of pulses: plain laws. -/
namespace Go.SL.A
open Go Go.SL Go.SL.S

theorem mem_numsF {z : Int} : ∀ {K : Nat}, z ∈ numsF K ↔ -(K : Int) ≤ z ∧ z ≤ (K : Int)
  | 0 => by simp [numsF]; omega
  | K + 1 => by
    simp only [numsF, List.mem_append, mem_numsF, List.mem_cons, List.not_mem_nil, or_false]
    omega

theorem sz13_in {z : Int} {K : Nat} (hK : K ≤ 12) (h : z ∈ numsF K) : 0 ≤ sz13 z ∧ sz13 z ≤ K ∧ (sz13 z = z ∨ sz13 z = -z) := by
  have := mem_numsF.1 h
  unfold sz13
  rw [if_neg (by omega)]; omega

theorem sumBy_append (n K : Nat) : ∀ p q : List Int, sumBy n K (p ++ q) = sumBy n K p + sumBy n K q
  | [], q => by simp [sumBy]
  | x :: p, q => by simp only [List.cons_append, sumBy, sumBy_append n K p q]; omega

theorem sumBy_nn (n K : Nat) : ∀ l : List Int, 0 ≤ sumBy n K l
  | [] => by simp [sumBy]
  | x :: l => by have := sumBy_nn n K l; have := (cnt_le n (K - (sz13 x).toNat)).1; simp only [sumBy]; omega

def revTo (f : Nat → Int) (K : Nat) : Nat → Int
  | 0 => 0
  | J + 1 => revTo f K J + f (K - (J + 1))

theorem revTo_sum (f : Nat → Int) (K : Nat) : ∀ J, J ≤ K → sumTo f K = sumTo f (K - J) + revTo f K J
  | 0, _ => by simp [revTo]
  | J + 1, h => by
    have ih := revTo_sum f K J (by omega)
    have e : K - J = (K - (J + 1)) + 1 := by omega
    rw [e, sumTo] at ih
    rw [revTo]; omega

theorem sz13_small {z : Int} (h1 : -12 ≤ z) (h2 : z ≤ 12) : sz13 z = max z (-z) := by
  unfold sz13; rw [if_neg (by omega)]

theorem sumBy_nums (n K : Nat) (hK : K ≤ 12) : ∀ J, J ≤ K → sumBy n K (numsF J) = cnt n K + 2 * revTo (cnt n) K J
  | 0, _ => by
    have e : sz13 0 = 0 := by decide
    simp [numsF, sumBy, revTo, e]
  | J + 1, h => by
    rw [numsF, sumBy_append, sumBy_nums n K hK J (by omega), revTo]
    have e1 : (sz13 ((J + 1 : Nat) : Int)).toNat = J + 1 := by rw [sz13_small (by omega) (by omega)]; omega
    have e2 : (sz13 (-((J + 1 : Nat) : Int))).toNat = J + 1 := by rw [sz13_small (by omega) (by omega)]; omega
    simp only [sumBy, e1, e2]; omega

/-- Of n + 1 numbers there are as many vectors as of n numbers behind each first one. -/
theorem sumBy_all {n K : Nat} (hK : K ≤ 12) : sumBy n K (numsF K) = cnt (n + 1) K := by
  rw [sumBy_nums n K hK K (Nat.le_refl _), cnt_sum, revTo_sum (cnt n) K K (Nat.le_refl _)]
  simp [sumTo]

theorem pick_spec (n K : Nat) : ∀ (l : List Int) (i : Int) (j : Nat), 0 ≤ i → i < sumBy n K l →
    ∃ p, p < l.length ∧ pickF n K l i j = (((j + p : Nat) : Int), i - sumBy n K (l.take p)) ∧ 0 ≤ i - sumBy n K (l.take p) ∧ i - sumBy n K (l.take p) < cnt n (K - (sz13 (l.getD p 0)).toNat)
  | [], i, j, h0, h => by simp [sumBy] at h; omega
  | z :: l, i, j, h0, h => by
    rw [pickF]
    by_cases hc : i < cnt n (K - (sz13 z).toNat)
    · rw [if_pos hc]
      exact ⟨0, by simp, by simp [sumBy], by simpa [sumBy] using h0, by simpa [sumBy] using hc⟩
    · rw [if_neg hc]
      simp only [sumBy] at h
      obtain ⟨p, h1, h2, h3, h4⟩ := pick_spec n K l (i - cnt n (K - (sz13 z).toNat)) (j + 1) (by omega) (by omega)
      refine ⟨p + 1, by simp; omega, ?_, ?_, ?_⟩
      · rw [h2, List.take_succ_cons, sumBy]
        congr 1
        · congr 1; omega
        · omega
      · rw [List.take_succ_cons, sumBy]; omega
      · rw [List.take_succ_cons, sumBy, List.getD_cons_succ]; omega

/-- What holds while a vector is found. -/
structure VI (n a : Nat) (k : Int) (s : Int × Int × List Int) : Prop where
  k0 : 0 ≤ s.1
  k1 : s.1 ≤ 12
  i0 : 0 ≤ s.2.1
  i1 : s.2.1 < cnt (n - a) s.1.toNat
  len : s.2.2.length = a
  sum : sumSz s.2.2 + s.1 = k
  rng : ∀ z ∈ s.2.2, -12 ≤ z ∧ z ≤ 12

theorem vst_ok {n : Nat} {k i : Int} (_hn : n ≤ 8) (hk0 : 0 ≤ k) (hk : k ≤ 12) (hi : 0 ≤ i) (hi2 : i < cnt n k.toNat) : ∀ a, a ≤ n → VI n a k (vst n k i a) ∧
    (a < n → ∃ p : Nat, p < (numsF (vst n k i a).1.toNat).length ∧ pickF (n - a - 1) (vst n k i a).1.toNat (numsF (vst n k i a).1.toNat) (vst n k i a).2.1 0 = ((p : Int), (vst n k i a).2.1 - sumBy (n - a - 1) (vst n k i a).1.toNat ((numsF (vst n k i a).1.toNat).take p)) ∧
      0 ≤ (vst n k i a).2.1 - sumBy (n - a - 1) (vst n k i a).1.toNat ((numsF (vst n k i a).1.toNat).take p) ∧
      (vst n k i a).2.1 - sumBy (n - a - 1) (vst n k i a).1.toNat ((numsF (vst n k i a).1.toNat).take p) < cnt (n - a - 1) ((vst n k i a).1.toNat - (sz13 ((numsF (vst n k i a).1.toNat).getD p 0)).toNat)) := by
  have next : ∀ a, a < n → VI n a k (vst n k i a) → ∃ p : Nat, p < (numsF (vst n k i a).1.toNat).length ∧ pickF (n - a - 1) (vst n k i a).1.toNat (numsF (vst n k i a).1.toNat) (vst n k i a).2.1 0 = ((p : Int), (vst n k i a).2.1 - sumBy (n - a - 1) (vst n k i a).1.toNat ((numsF (vst n k i a).1.toNat).take p)) ∧
      0 ≤ (vst n k i a).2.1 - sumBy (n - a - 1) (vst n k i a).1.toNat ((numsF (vst n k i a).1.toNat).take p) ∧
      (vst n k i a).2.1 - sumBy (n - a - 1) (vst n k i a).1.toNat ((numsF (vst n k i a).1.toNat).take p) < cnt (n - a - 1) ((vst n k i a).1.toNat - (sz13 ((numsF (vst n k i a).1.toNat).getD p 0)).toNat) := by
    intro a ha h
    have hs : (vst n k i a).2.1 < sumBy (n - a - 1) (vst n k i a).1.toNat (numsF (vst n k i a).1.toNat) := by
      rw [sumBy_all (by have := h.k1; omega), show n - a - 1 + 1 = n - a by omega]; exact h.i1
    obtain ⟨p, h1, h2, h3, h4⟩ := pick_spec (n - a - 1) (vst n k i a).1.toNat _ _ 0 h.i0 hs
    exact ⟨p, h1, by rw [h2]; simp, h3, h4⟩
  intro a
  induction a with
  | zero =>
    intro _
    have h0 : VI n 0 k (vst n k i 0) := ⟨hk0, hk, hi, hi2, rfl, by simp [vst, sumSz], fun z hz => by simp [vst] at hz⟩
    exact ⟨h0, fun h => next 0 h h0⟩
  | succ a ih =>
    intro ha
    obtain ⟨h, hx⟩ := ih (by omega)
    obtain ⟨p, h1, h2, h3, h4⟩ := hx (by omega)
    have hv : VI n (a + 1) k (vst n k i (a + 1)) := by
      rw [vst]
      generalize vst n k i a = s at *
      rw [h2]
      simp only [Int.toNat_natCast]
      have hm := getD_mem (d := 0) h1
      have hz := sz13_in (by have := h.k1; omega) hm
      have hz2 := mem_numsF.1 hm
      have k0 := h.k0
      have k1 := h.k1
      generalize (numsF s.1.toNat).getD p 0 = z at *
      refine ⟨by simp only; omega, by simp only; omega, h3, ?_, by simp [h.len], ?_, fun y hy => ?_⟩
      · show _ < cnt (n - (a + 1)) (s.1 - sz13 z).toNat
        rw [show n - (a + 1) = n - a - 1 by omega, show (s.1 - sz13 z).toNat = s.1.toNat - (sz13 z).toNat by omega]; exact h4
      · show sumSz (s.2.2 ++ [z]) + (s.1 - sz13 z) = k
        rw [sumSz_append]; have := h.sum; simp only [sumSz]; omega
      · rcases List.mem_append.1 hy with hy | hy
        · exact h.rng y hy
        · rw [List.mem_singleton.1 hy]; omega
    exact ⟨hv, fun h => next (a + 1) h hv⟩

end Go.SL.A

namespace Go.SL.A
open Go Go.SL Go.SL.S

theorem pure45 (n k i : Int) : P45 n k i := by
  unfold P45
  cases hm : mayF n k with
  | false =>
    have e1 : vecF n k i = [] := by unfold vecF; rw [if_neg (by simp [hm])]
    have e2 : vecE n k i = 1 := by unfold vecE; simp [hm]
    simp [e1, e2]
  | true =>
    have hb : 0 ≤ n ∧ n ≤ 8 ∧ 0 ≤ k ∧ k ≤ 12 := by simpa [mayF] using hm
    have hc : countF n k = cnt n.toNat k.toNat := by unfold countF; simp [hm]
    simp only [Bool.not_true, cond_false]
    by_cases hi : i < 0
    · have e1 : vecF n k i = [] := by unfold vecF; rw [if_neg (by omega)]
      have e2 : vecE n k i = 7 := by unfold vecE; rw [hm, if_pos rfl, if_neg (by omega)]
      simp [e1, e2, hi]
    by_cases hi2 : countF n k ≤ i
    · have e1 : vecF n k i = [] := by unfold vecF; rw [if_neg (by omega)]
      have e2 : vecE n k i = 7 := by unfold vecE; rw [hm, if_pos rfl, if_neg (by omega)]
      simp [e1, e2, hi, hi2]
    have e1 : vecF n k i = (vst n.toNat k i n.toNat).2.2 := by unfold vecF; rw [if_pos ⟨hm, by omega, by omega⟩]
    have e2 : vecE n k i = 0 := by unfold vecE; rw [hm, if_pos rfl, if_pos (by omega)]
    simp only [hi, hi2, decide_false, cond_false, e1, e2, eq_self, true_and, and_true, Nat.zero_add]
    rw [hc] at hi2
    have hv := vst_ok (n := n.toNat) (k := k) (i := i) (by omega) hb.2.2.1 hb.2.2.2 (by omega) (by omega)
    refine ⟨0, ⟨⟨rfl, rfl, rfl, rfl, rfl⟩, by omega⟩, fun a ha _ => ?_⟩
    obtain ⟨h, hx⟩ := hv a ha
    clear hv
    by_cases hax : (a : Int) < n
    · have han : a < n.toNat := by clear hx; omega
      obtain ⟨p, p1, p2, p3, p4⟩ := hx han
      clear hx
      simp only [hax, decide_true, cond_true]
      have en : (n - (a : Int) - 1).toNat = n.toNat - a - 1 := by omega
      have e3 : vst n.toNat k i (a + 1) = ((vst n.toNat k i a).1 - sz13 ((numsF (vst n.toNat k i a).1.toNat).getD (pickF (n.toNat - a - 1) (vst n.toNat k i a).1.toNat (numsF (vst n.toNat k i a).1.toNat) (vst n.toNat k i a).2.1 0).1.toNat 0), (pickF (n.toNat - a - 1) (vst n.toNat k i a).1.toNat (numsF (vst n.toNat k i a).1.toNat) (vst n.toNat k i a).2.1 0).2, (vst n.toNat k i a).2.2 ++ [(numsF (vst n.toNat k i a).1.toNat).getD (pickF (n.toNat - a - 1) (vst n.toNat k i a).1.toNat (numsF (vst n.toNat k i a).1.toNat) (vst n.toNat k i a).2.1 0).1.toNat 0]) := rfl
      rw [en]
      generalize vst n.toNat k i a = s at *
      rw [p2] at e3 ⊢
      simp only [Int.toNat_natCast] at e3 ⊢
      have w : IntKind.i64.wrap ((a : Int) + 1) = ((a + 1 : Nat) : Int) := by rw [w64 (by omega) (by omega)]; simp
      have hm := getD_mem (d := 0) p1
      have k0 := h.k0
      have k1 := h.k1
      have i0 := h.i0
      have hl := numsF_len s.1.toNat
      have hz := sz13_in (by omega) hm
      have w2 : IntKind.i64.wrap (s.1 - sz13 ((numsF s.1.toNat).getD p 0)) = s.1 - sz13 ((numsF s.1.toNat).getD p 0) := w64 (by omega) (by omega)
      have es : ∀ v : Int, seg (v :: List.replicate 0 (0 : Int)) 0 1 = [v] := fun v => rfl
      simp only [es, List.length_singleton, w, w2]
      refine ⟨by omega, ⟨⟨by omega, by omega⟩, by omega, by omega, by omega, fun z hz => ?_, k1, i0⟩, ⟨by omega, p1, by omega, by rw [h.len], by omega⟩, ⟨by omega, p1⟩, a + 1, ⟨rfl, rfl, ?_, ?_, ?_⟩, by omega, by omega⟩
      · have := sz13_in (by omega) hz; omega
      · rw [e3]
      · rw [e3]
      · rw [e3]; rfl
    · have : a = n.toNat := by clear hx; omega
      subst this
      simp only [hax, decide_false, cond_false]
      exact ⟨h.len.symm, trivial⟩

theorem ishr1 (l : Int) : ishr .i64 l 1 = l / 2 := by
  unfold ishr
  simp only [show (2 : Int) ^ (min (1 : Int).toNat IntKind.i64.bits) = 2 by decide]
  exact Int.fdiv_eq_ediv_of_nonneg l (by decide)

theorem bitLen_half {m : Nat} (h : 0 < m) : bitLen m = bitLen (m / 2) + 1 := by
  unfold bitLen
  rw [if_neg (by omega)]
  by_cases h2 : m / 2 = 0
  · rw [if_pos h2]
    have : m = 1 := by omega
    subst this; decide
  · rw [if_neg h2, Nat.log2_def]
    rw [if_pos (by omega)]

theorem bitLen_le {m : Nat} (h : m ≤ 10000000000) : bitLen m ≤ 10000000000 := by
  unfold bitLen
  split
  · omega
  · have := Nat.log2_le_self m
    have : m.log2 < m := by
      rcases Nat.lt_or_ge m.log2 m with h | h
      · exact h
      · exfalso
        have h3 := Nat.lt_two_pow_self (n := m)
        have h4 := Nat.log2_self_le (n := m) (by omega)
        have h5 : 2 ^ m ≤ 2 ^ m.log2 := Nat.pow_le_pow_right (by decide) h
        omega
    omega

theorem countF_fits (n k : Int) : 0 ≤ countF n k ∧ countF n k ≤ 3486784401 := by
  unfold countF
  split
  · rename_i hm
    have hb : 0 ≤ n ∧ n ≤ 8 ∧ 0 ≤ k ∧ k ≤ 12 := by simpa [mayF] using hm
    exact cnt_fits (by omega) (by omega)
  · omega

theorem pure42 (k : Int) : P42 k := by
  unfold P42
  have hq : bitsF k = (bitLen (countF 4 k - 1).toNat : Nat) := rfl
  rw [hq]
  have hc := countF_fits 4 k
  generalize countF 4 k = c at *
  have w : IntKind.i64.wrap (c - 1) = c - 1 := w64 (by omega) (by omega)
  rw [w]
  refine ⟨(0, c - 1), ⟨by simp, by simp, by simp; omega⟩, fun x hx _ => ?_⟩
  obtain ⟨m, l⟩ := x
  obtain ⟨h1, h2⟩ := hx
  simp only at h1 h2 ⊢
  have hb := bitLen_le (m := (c - 1).toNat) (by omega)
  by_cases h : 0 < l
  · simp only [h, decide_true, cond_true]
    have w1 : IntKind.i64.wrap ((m : Int) + 1) = ((m + 1 : Nat) : Int) := by rw [w64 (by omega) (by omega)]; simp
    refine ⟨by decide, (m + 1, l / 2), ⟨w1, ishr1 l⟩, ⟨?_, by simp only; omega⟩, by simp only; omega⟩
    have := bitLen_half (m := l.toNat) (by omega)
    simp only
    rw [show (l / 2).toNat = l.toNat / 2 by omega]; omega
  · simp only [h, decide_false, cond_false]
    have e : bitLen l.toNat = 0 := by rw [show l.toNat = 0 by omega]; rfl
    omega

end Go.SL.A

/- Vectors' numbers: plain laws; the code of Index. -/
namespace Go.SL.A
open Go Go.SL Go.SL.S

theorem idx_mem {v : Int} : ∀ {l : List Int} (i : Nat), v ∈ l → ∃ p, p < l.length ∧ idxFrom v l i = ((i + p : Nat) : Int) ∧ l.getD p 0 = v
  | [], i, h => by cases h
  | x :: l, i, h => by
    by_cases e : v = x
    · subst e
      exact ⟨0, by simp, by simp [idxFrom], by simp⟩
    · have h2 : v ∈ l := by rcases List.mem_cons.1 h with h | h; exact absurd h e; exact h
      obtain ⟨p, h1, h3, h4⟩ := idx_mem (i + 1) h2
      refine ⟨p + 1, by simp; omega, ?_, by rw [List.getD_cons_succ]; exact h4⟩
      rw [idxFrom, if_neg e, h3]; congr 1; omega

theorem sumBy_take_succ (n K : Nat) {l : List Int} {p : Nat} (h : p < l.length) : sumBy n K (l.take (p + 1)) = sumBy n K (l.take p) + cnt n (K - (sz13 (l.getD p 0)).toNat) := by
  rw [take_snoc' 0 h, sumBy_append]; simp [sumBy]

theorem sumBy_take_le (n K : Nat) (l : List Int) (p : Nat) : sumBy n K (l.take p) ≤ sumBy n K l := by
  have h := sumBy_append n K (l.take p) (l.drop p)
  rw [List.take_append_drop] at h
  have := sumBy_nn n K (l.drop p); omega

theorem sz13_le12 {x : Int} (h : sz13 x ≤ 12) : -12 ≤ x ∧ x ≤ 12 ∧ (sz13 x = x ∨ sz13 x = -x) := by
  unfold sz13 at *
  split at h
  · omega
  · rename_i h1; rw [if_neg h1]; omega

/-- A first number, and those that follow. -/
theorem numF_cons {x : Int} {ys : List Int} (h : sumSz (x :: ys) ≤ 12) : ∃ p : Nat, p < (numsF (sumSz (x :: ys)).toNat).length ∧ idxF (numsF (sumSz (x :: ys)).toNat) x = (p : Int) ∧ (numsF (sumSz (x :: ys)).toNat).getD p 0 = x ∧
    numF (x :: ys) = sumBy ys.length (sumSz (x :: ys)).toNat ((numsF (sumSz (x :: ys)).toNat).take p) + numF ys ∧ (sumSz (x :: ys)).toNat - (sz13 x).toNat = (sumSz ys).toNat := by
  have h1 := sumSz_le ys
  have h2 := sz13_le x
  have e : sumSz (x :: ys) = sz13 x + sumSz ys := rfl
  have h3 := sz13_le12 (x := x) (by omega)
  have hm : x ∈ numsF (sumSz (x :: ys)).toNat := mem_numsF.2 (by omega)
  obtain ⟨p, p1, p2, p3⟩ := idx_mem 0 hm
  rw [Nat.zero_add] at p2
  refine ⟨p, p1, p2, p3, ?_, by omega⟩
  rw [numF, show idxF (numsF (sumSz (x :: ys)).toNat) x = (p : Int) from p2, Int.toNat_natCast]

theorem numF_lt : ∀ {y : List Int}, sumSz y ≤ 12 → 0 ≤ numF y ∧ numF y < cnt y.length (sumSz y).toNat
  | [], _ => by simp [numF, sumSz, cnt, cnt0]
  | x :: ys, h => by
    have e : sumSz (x :: ys) = sz13 x + sumSz ys := rfl
    have h1 := sumSz_le ys
    have h2 := sz13_le x
    obtain ⟨p, p1, p2, p3, p4, p5⟩ := numF_cons h
    obtain ⟨i1, i2⟩ := numF_lt (y := ys) (by omega)
    have s1 := sumBy_take_succ ys.length (sumSz (x :: ys)).toNat p1
    rw [p3, p5] at s1
    have s2 := sumBy_take_le ys.length (sumSz (x :: ys)).toNat (numsF (sumSz (x :: ys)).toNat) (p + 1)
    rw [sumBy_all (by omega)] at s2
    have s3 := sumBy_nn ys.length (sumSz (x :: ys)).toNat ((numsF (sumSz (x :: ys)).toNat).take p)
    rw [p4, List.length_cons]
    omega

theorem sumSz_drop (y : List Int) (a : Nat) : sumSz (y.drop a) ≤ sumSz y := by
  have h := sumSz_append (y.take a) (y.drop a)
  rw [List.take_append_drop] at h
  have := (sumSz_le (y.take a)).1; omega

theorem numF_drop_le {y : List Int} (h : sumSz y ≤ 12) : ∀ a, numF (y.drop a) ≤ numF y := by
  induction y with
  | nil => intro a; simp
  | cons x ys ih =>
    intro a
    have e : sumSz (x :: ys) = sz13 x + sumSz ys := rfl
    have h1 := sumSz_le ys
    have h2 := sz13_le x
    cases a with
    | zero => simp
    | succ a =>
      obtain ⟨p, p1, p2, p3, p4, p5⟩ := numF_cons h
      have := ih (by omega) a
      have := sumBy_nn ys.length (sumSz (x :: ys)).toNat ((numsF (sumSz (x :: ys)).toNat).take p)
      rw [List.drop_succ_cons, p4]; omega

theorem pure43 (r : Bool) (n : Nat) (y : List Int) (hn : n = y.length) : P43 r n y := by
  subst hn
  unfold P43
  refine ⟨rfl, ?_⟩
  by_cases hp : 12 < pulsesF y
  · have e : indexF y = (0, 7) := by unfold indexF; rw [if_pos hp]
    simp [hp, e]
  have e : indexF y = (numF y, 0) := by unfold indexF; rw [if_neg hp]
  have hl : ¬ 8 < y.length := fun h => by apply hp; unfold pulsesF; rw [if_pos h]; decide
  have hps : pulsesF y = min (sumSz y) 13 := by unfold pulsesF; rw [if_neg hl]
  have hsz : sumSz y ≤ 12 := by omega
  have hs0 := sumSz_le y
  have hpe : pulsesF y = sumSz y := by omega
  obtain ⟨b1, b2⟩ := numF_lt hsz
  have b3 := cnt_fits (n := y.length) (k := (sumSz y).toNat) (by omega) (by omega)
  have hp2 : ¬ (12 : Int) < sumSz y := by omega
  simp only [hp2, decide_false, cond_false, e, hpe, eq_self, true_and, and_true, Int.toNat_natCast, Nat.zero_add, Nat.sub_zero]
  refine ⟨0, ⟨by simp, by omega⟩, fun a ha _ => ?_⟩
  by_cases h : (a : Int) < (y.length : Int)
  · have hal : a < y.length := by omega
    have w : IntKind.i64.wrap ((a : Int) + 1) = ((a + 1 : Nat) : Int) := by rw [w64 (by omega) (by omega)]; simp
    have w2 : IntKind.i64.wrap ((y.length : Int) - (a : Int)) = ((y.length - a : Nat) : Int) := by rw [w64 (by omega) (by omega)]; omega
    have w3 : IntKind.i64.wrap (((y.length - a : Nat) : Int) - 1) = ((y.length - a - 1 : Nat) : Int) := by rw [w64 (by omega) (by omega)]; omega
    have ed : y.drop a = y.getD a 0 :: y.drop (a + 1) := by
      rw [List.drop_eq_getElem_cons hal]; simp [hal]
    have hd := sumSz_drop y a
    have hd0 := (sumSz_le (y.drop a)).1
    have hd1 := (sumSz_le (y.drop (a + 1))).1
    have ee : sumSz (y.drop a) = sz13 (y.getD a 0) + sumSz (y.drop (a + 1)) := by rw [ed]; rfl
    obtain ⟨p, p1, p2, p3, p4, p5⟩ := numF_cons (x := y.getD a 0) (ys := y.drop (a + 1)) (by rw [← ed]; omega)
    have hn1 := numF_drop_le hsz a
    have hn2 := numF_lt (y := y.drop a) (by omega)
    rw [← ed] at p1 p2 p3 p4 p5
    have elen : (y.drop (a + 1)).length = y.length - a - 1 := by rw [List.length_drop]; omega
    rw [elen] at p4
    have hsz2 := sz13_le (y.getD a 0)
    generalize hK : sumSz (y.drop a) = K at *
    have hl2 := numsF_len K.toNat
    have et : (numsF K.toNat).take (2 * K.toNat + 1) = numsF K.toNat := List.take_of_length_le (by omega)
    have wk : IntKind.i64.wrap (K - sz13 (y.getD a 0)) = sumSz (y.drop (a + 1)) := by rw [w64 (by omega) (by omega)]; omega
    simp only [h, decide_true, cond_true, et, p2, Int.toNat_natCast, w, w2, w3, wk]
    refine ⟨by simp [hal], by omega, ⟨by omega, by omega, by omega, by omega⟩, 0, ⟨by simp [sumBy], by omega⟩, fun j hj _ => ?_⟩
    by_cases hjp : (j : Int) < (p : Int)
    · have hjl : j < (numsF K.toNat).length := by omega
      have wj : IntKind.i64.wrap ((j : Int) + 1) = ((j + 1 : Nat) : Int) := by rw [w64 (by omega) (by omega)]; simp
      have hm := getD_mem (d := 0) hjl
      have hz := sz13_in (by omega) hm
      have wz : IntKind.i64.wrap (K - sz13 ((numsF K.toNat).getD j 0)) = K - sz13 ((numsF K.toNat).getD j 0) := w64 (by omega) (by omega)
      have s1 := sumBy_take_succ (y.length - a - 1) K.toNat hjl
      have s2 := sumBy_take_le (y.length - a - 1) K.toNat (numsF K.toNat) (j + 1)
      rw [sumBy_all (by omega)] at s2
      have s3 := sumBy_nn (y.length - a - 1) K.toNat ((numsF K.toNat).take j)
      have s4 := cnt_fits (n := y.length - a - 1 + 1) (k := K.toNat) (by omega) (by omega)
      have s5 := (cnt_le (y.length - a - 1) (K.toNat - (sz13 ((numsF K.toNat).getD j 0)).toNat)).1
      have et2 : (tabF.getD (y.length - a - 1) (List.replicate 13 0)).getD (K - sz13 ((numsF K.toNat).getD j 0)).toNat 0 = cnt (y.length - a - 1) (K.toNat - (sz13 ((numsF K.toNat).getD j 0)).toNat) := by
        unfold tabF; rw [tab_get (by omega), row_get (by omega)]; congr 1; omega
      simp only [hjp, decide_true, cond_true, wj, wz, et2]
      rw [w64 (by omega) (by omega)]
      refine ⟨by simp [hjl], by omega, j + 1, ⟨by rw [s1]; omega, rfl⟩, by omega, by omega⟩
    · have : j = p := by omega
      subst this
      simp only [hjp, decide_false, cond_false]
      refine ⟨a + 1, ⟨rfl, by omega, rfl⟩, by omega, by omega⟩
  · have : a = y.length := by omega
    subst this
    simp only [h, decide_false, cond_false, List.drop_length, numF]
    omega

end Go.SL.A

/- Functions do what they are held to do. -/
namespace Go.SL.A
open Go Go.SL Go.SL.S
theorem snd45 : Sound Go.Proofs.Try.prog G45 := snd90.add ⟨_, Go.Proofs.Try.func35, by kernel_rfl, by kernel_rfl⟩ (by
  intro args ins out h hp
  unfold sp45 at h
  split at h
  · rename_i n k i
    cases h
    exact vcFun_ok (C := C45) good snd90 Meth.none mix Go.Proofs.Try.func35 (ann45 n k i) (fun hw => by rw [← vc45 n k i]; exact pure45 n k i)
  · cases h)

theorem snd43 : Sound Go.Proofs.Try.prog G43 := snd45.add ⟨_, Go.Proofs.Try.func22, by kernel_rfl, by kernel_rfl⟩ (by
  intro args ins out h hp
  unfold sp43 at h
  split at h
  · rename_i n r y
    cases h
    exact vcFun_ok (C := C43) good snd45 Meth.none mix Go.Proofs.Try.func22 (ann43 r n y) (fun hw => by rw [← vc43 r n y]; exact pure43 r n y hp)
  · cases h)

theorem snd42 : Sound Go.Proofs.Try.prog G42 := snd43.add ⟨_, Go.Proofs.Try.func23, by kernel_rfl, by kernel_rfl⟩ (by
  intro args ins out h hp
  unfold sp42 at h
  split at h
  · rename_i k
    cases h
    exact vcFun_ok (C := C42) good snd43 Meth.none mix Go.Proofs.Try.func23 (ann42 k) (fun hw => by rw [← vc42 k]; exact pure42 k)
  · cases h)

end Go.SL.A

/- Plain functions of the statements on pvq. -/
namespace Go.SL.S
open Go
def rankF (x : Int) : Int := if 0 < x then IntKind.i64.wrap (IntKind.i64.wrap (2 * x) - 1) else IntKind.i64.wrap (-2 * x)
end Go.SL.S

/- Functions and what they are held to do: bound to their code. -/
namespace Go.SL.A
open Go Go.SL Go.SL.S
set_option maxRecDepth 100000
end Go.SL.A

namespace Go.SL.A
open Go Go.SL Go.SL.S
end Go.SL.A

/- Functions do what they are held to do. -/
namespace Go.SL.A
open Go Go.SL Go.SL.S
end Go.SL.A

/- Vectors and their numbers: plain laws. -/
namespace Go.SL.A
open Go Go.SL Go.SL.S

theorem numsF_get : ∀ {K p : Nat}, p < 2 * K + 1 → (numsF K).getD p 0 = if p % 2 = 1 then (((p + 1) / 2 : Nat) : Int) else -((p / 2 : Nat) : Int)
  | 0, p, h => by
    have : p = 0 := by omega
    subst this; rfl
  | K + 1, p, h => by
    have hl := numsF_len K
    rw [numsF, List.getD_eq_getElem?_getD]
    by_cases h1 : p < 2 * K + 1
    · rw [List.getElem?_append_left (by omega), ← List.getD_eq_getElem?_getD]; exact numsF_get h1
    · rw [List.getElem?_append_right (by omega), hl]
      have h2 : p = 2 * K + 1 ∨ p = 2 * K + 2 := by omega
      rcases h2 with rfl | rfl
      · rw [Nat.sub_self, if_pos (by omega)]
        simp <;> omega
      · rw [show 2 * K + 2 - (2 * K + 1) = 1 by omega, if_neg (by omega)]
        simp <;> omega

/-- Which place a number has among 0, 1, -1, 2, .. -/
def rk (x : Int) : Nat := if 0 < x then (2 * x - 1).toNat else (-2 * x).toNat

theorem rk_get {K p : Nat} (h : p < 2 * K + 1) : rk ((numsF K).getD p 0) = p := by
  rw [numsF_get h]; unfold rk
  split
  · rw [if_pos (by omega)]; omega
  · rw [if_neg (by omega)]; omega

theorem idx_from {v : Int} : ∀ {l : List Int} {p : Nat} (i : Nat), p < l.length → l.getD p 0 = v → (∀ q, q < p → l.getD q 0 ≠ v) → idxFrom v l i = ((i + p : Nat) : Int)
  | [], p, i, h, _, _ => by simp at h
  | x :: l, 0, i, h, hv, _ => by
    have : x = v := by simpa using hv
    subst this; simp [idxFrom]
  | x :: l, p + 1, i, h, hv, hq => by
    have h0 : x ≠ v := by have := hq 0 (by omega); simpa using this
    rw [idxFrom, if_neg (fun e => h0 e.symm), idx_from (i + 1) (p := p) (by simpa using h) (by simpa using hv) (fun q hlt => by have := hq (q + 1) (by omega); simpa using this)]
    congr 1; omega

theorem idx_nums {K p : Nat} (h : p < 2 * K + 1) : idxF (numsF K) ((numsF K).getD p 0) = (p : Int) := by
  have hl := numsF_len K
  have := idx_from (v := (numsF K).getD p 0) 0 (by omega) rfl (fun q hq e => by
    have h1 := rk_get (K := K) (p := q) (by omega)
    have h2 := rk_get h
    rw [e] at h1; omega)
  rw [Nat.zero_add] at this; exact this

theorem sumBy_take_mono (n K : Nat) (l : List Int) {p q : Nat} (h : p ≤ q) : sumBy n K (l.take p) ≤ sumBy n K (l.take q) := by
  have := sumBy_take_le n K (l.take q) p
  rwa [List.take_take, Nat.min_eq_left h] at this

theorem pick_at {n K : Nat} {l : List Int} {i : Int} {p : Nat} (hp : p < l.length) (h0 : sumBy n K (l.take p) ≤ i) (h1 : i < sumBy n K (l.take (p + 1))) : pickF n K l i 0 = ((p : Int), i - sumBy n K (l.take p)) := by
  have hle := sumBy_take_le n K l (p + 1)
  have hnn := sumBy_nn n K (l.take p)
  obtain ⟨q, q1, q2, q3, q4⟩ := pick_spec n K l i 0 (by omega) (by omega)
  have hs := sumBy_take_succ n K q1
  have : q = p := by
    rcases Nat.lt_trichotomy q p with h | h | h
    · have := sumBy_take_mono n K l (show q + 1 ≤ p by omega); omega
    · exact h
    · have := sumBy_take_mono n K l (show p + 1 ≤ q by omega); omega
  subst this
  rw [q2, Nat.zero_add]

/-- The first number, and what is left behind it. -/
theorem vst_cons (n : Nat) (k i : Int) : ∀ a, vst (n + 1) k i (a + 1) = ((vst n (vst (n + 1) k i 1).1 (vst (n + 1) k i 1).2.1 a).1, (vst n (vst (n + 1) k i 1).1 (vst (n + 1) k i 1).2.1 a).2.1, (vst (n + 1) k i 1).2.2 ++ (vst n (vst (n + 1) k i 1).1 (vst (n + 1) k i 1).2.1 a).2.2)
  | 0 => by
    show vst (n + 1) k i 1 = _
    simp only [vst, List.append_nil]
  | a + 1 => by
    have ih := vst_cons n k i a
    rw [show vst (n + 1) k i (a + 1 + 1) = (fun s : Int × Int × List Int => (s.1 - sz13 ((numsF s.1.toNat).getD (pickF (n + 1 - (a + 1) - 1) s.1.toNat (numsF s.1.toNat) s.2.1 0).1.toNat 0), (pickF (n + 1 - (a + 1) - 1) s.1.toNat (numsF s.1.toNat) s.2.1 0).2, s.2.2 ++ [(numsF s.1.toNat).getD (pickF (n + 1 - (a + 1) - 1) s.1.toNat (numsF s.1.toNat) s.2.1 0).1.toNat 0])) (vst (n + 1) k i (a + 1)) from rfl, ih]
    generalize vst (n + 1) k i 1 = t
    rw [show vst n t.1 t.2.1 (a + 1) = (fun s : Int × Int × List Int => (s.1 - sz13 ((numsF s.1.toNat).getD (pickF (n - a - 1) s.1.toNat (numsF s.1.toNat) s.2.1 0).1.toNat 0), (pickF (n - a - 1) s.1.toNat (numsF s.1.toNat) s.2.1 0).2, s.2.2 ++ [(numsF s.1.toNat).getD (pickF (n - a - 1) s.1.toNat (numsF s.1.toNat) s.2.1 0).1.toNat 0])) (vst n t.1 t.2.1 a) from rfl]
    rw [show n + 1 - (a + 1) - 1 = n - a - 1 by omega]
    simp only [List.append_assoc]

/-- A vector by its first number's place. -/
theorem vst_first {n : Nat} {k i : Int} (_hk0 : 0 ≤ k) (_hk : k ≤ 12) {p : Nat} (hp : p < 2 * k.toNat + 1) (h0 : sumBy n k.toNat ((numsF k.toNat).take p) ≤ i) (h1 : i < sumBy n k.toNat ((numsF k.toNat).take (p + 1))) :
    (vst (n + 1) k i (n + 1)).2.2 = (numsF k.toNat).getD p 0 :: (vst n (k - sz13 ((numsF k.toNat).getD p 0)) (i - sumBy n k.toNat ((numsF k.toNat).take p)) n).2.2 := by
  have hl := numsF_len k.toNat
  have hpk := pick_at (n := n) (K := k.toNat) (l := numsF k.toNat) (by omega) h0 h1
  have e1 : vst (n + 1) k i 1 = (k - sz13 ((numsF k.toNat).getD p 0), i - sumBy n k.toNat ((numsF k.toNat).take p), [(numsF k.toNat).getD p 0]) := by
    simp only [vst, Nat.add_sub_cancel, Nat.sub_zero, hpk, Int.toNat_natCast, List.nil_append]
  rw [vst_cons, e1]; rfl

/-- A vector of a number has that number. -/
theorem vst_num : ∀ {n : Nat} {k i : Int}, n ≤ 8 → 0 ≤ k → k ≤ 12 → 0 ≤ i → i < cnt n k.toNat →
    ((vst n k i n).2.2).length = n ∧ sumSz (vst n k i n).2.2 = k ∧ numF (vst n k i n).2.2 = i
  | 0, k, i, _, hk0, hk, hi, hi2 => by
    have hkz : k.toNat = 0 := by
      cases h : k.toNat with
      | zero => rfl
      | succ m => rw [h] at hi2; simp only [cnt, cnt0] at hi2; omega
    rw [hkz] at hi2
    simp only [cnt, cnt0] at hi2
    refine ⟨rfl, ?_, ?_⟩
    · show (0 : Int) = k; omega
    · show (0 : Int) = i; omega
  | n + 1, k, i, hn, hk0, hk, hi, hi2 => by
    have hl := numsF_len k.toNat
    rw [← sumBy_all (by omega)] at hi2
    obtain ⟨p, p1, p2, p3, p4⟩ := pick_spec n k.toNat (numsF k.toNat) i 0 hi hi2
    have hs := sumBy_take_succ n k.toNat p1
    have hz := sz13_in (by omega) (getD_mem (d := 0) p1)
    have hf := vst_first (n := n) (i := i) hk0 hk (p := p) (by omega) (by omega) (by omega)
    have ez : k.toNat - (sz13 ((numsF k.toNat).getD p 0)).toNat = (k - sz13 ((numsF k.toNat).getD p 0)).toNat := by omega
    rw [ez] at p4
    obtain ⟨q1, q2, q3⟩ := vst_num (n := n) (k := k - sz13 ((numsF k.toNat).getD p 0)) (i := i - sumBy n k.toNat ((numsF k.toNat).take p)) (by omega) (by omega) (by omega) p3 p4
    have hix := idx_nums (K := k.toNat) (p := p) (by omega)
    rw [hf]
    generalize hL : (vst n (k - sz13 ((numsF k.toNat).getD p 0)) (i - sumBy n k.toNat ((numsF k.toNat).take p)) n).2.2 = L at *
    generalize hzz : (numsF k.toNat).getD p 0 = z at *
    have hsum : sumSz (z :: L) = k := by simp only [sumSz]; omega
    refine ⟨by simp [q1], hsum, ?_⟩
    rw [numF, hsum, hix, Int.toNat_natCast, q1, q3]; omega

/-- The vector of a vector's number is that vector. -/
theorem vst_back : ∀ {y : List Int}, y.length ≤ 8 → sumSz y ≤ 12 → (vst y.length (sumSz y) (numF y) y.length).2.2 = y
  | [], _, _ => rfl
  | x :: ys, hn, hk => by
    have h1 := sumSz_le ys
    have h2 := sz13_le x
    have e : sumSz (x :: ys) = sz13 x + sumSz ys := rfl
    obtain ⟨p, p1, p2, p3, p4, p5⟩ := numF_cons hk
    obtain ⟨n0, n1⟩ := numF_lt (y := ys) (by omega)
    have hl := numsF_len (sumSz (x :: ys)).toNat
    have hs := sumBy_take_succ ys.length (sumSz (x :: ys)).toNat p1
    rw [p3, p5] at hs
    have hf := vst_first (n := ys.length) (k := sumSz (x :: ys)) (i := numF (x :: ys)) (by omega) hk (p := p) (by omega) (by omega) (by omega)
    rw [p3] at hf
    rw [List.length_cons, hf]
    have e2 : sumSz (x :: ys) - sz13 x = sumSz ys := by omega
    have e3 : numF (x :: ys) - sumBy ys.length (sumSz (x :: ys)).toNat ((numsF (sumSz (x :: ys)).toNat).take p) = numF ys := by omega
    rw [e2, e3, vst_back (y := ys) (by simp at hn; omega) (by omega)]

/-- Of two vectors the one of the greater number comes behind, at the first place where they are unlike. -/
theorem num_order : ∀ {v w : List Int} (x : Nat), v.length = w.length → sumSz v = sumSz w → sumSz v ≤ 12 → x < v.length → v.take x = w.take x → v.getD x 0 ≠ w.getD x 0 →
    (numF v < numF w ↔ rk (v.getD x 0) < rk (w.getD x 0))
  | [], _, x, _, _, _, hx, _, _ => by simp at hx
  | a :: v, [], x, hl, _, _, _, _, _ => by simp at hl
  | a :: v, b :: w, 0, hl, hs, hk, _, _, hne => by
    have key : ∀ (a b : Int) (v w : List Int), v.length = w.length → sumSz (a :: v) = sumSz (b :: w) → sumSz (a :: v) ≤ 12 → rk a < rk b → numF (a :: v) < numF (b :: w) := by
      intro a b v w hl hs hk hlt
      obtain ⟨p, p1, p2, p3, p4, p5⟩ := numF_cons hk
      obtain ⟨q, q1, q2, q3, q4, q5⟩ := numF_cons (x := b) (ys := w) (by omega)
      have h1 := sumSz_le v
      have h2 := sz13_le a
      have h3 := sumSz_le w
      have h4 := sz13_le b
      have e : sumSz (a :: v) = sz13 a + sumSz v := rfl
      have e' : sumSz (b :: w) = sz13 b + sumSz w := rfl
      rw [← hs] at q1 q2 q3 q4 q5
      have hl2 := numsF_len (sumSz (a :: v)).toNat
      have r1 := rk_get (K := (sumSz (a :: v)).toNat) (p := p) (by omega)
      have r2 := rk_get (K := (sumSz (a :: v)).toNat) (p := q) (by omega)
      rw [p3] at r1
      rw [q3] at r2
      have hst := sumBy_take_succ v.length (sumSz (a :: v)).toNat p1
      rw [p3, p5] at hst
      have hmo := sumBy_take_mono v.length (sumSz (a :: v)).toNat (numsF (sumSz (a :: v)).toNat) (show p + 1 ≤ q by omega)
      have hlt1 := numF_lt (y := v) (by omega)
      have hlt2 := numF_lt (y := w) (by omega)
      rw [p4, q4, ← hl]; omega
    have hl' : v.length = w.length := by simpa using hl
    simp only [List.getD_cons_zero] at hne ⊢
    have hrk : rk a ≠ rk b := fun e => by
      unfold rk at e; split at e <;> split at e <;> omega
    constructor
    · intro h
      rcases Nat.lt_or_ge (rk a) (rk b) with h1 | h1
      · exact h1
      · exfalso
        have := key b a w v hl'.symm hs.symm (by omega) (by omega); omega
    · exact key a b v w hl' hs hk
  | a :: v, b :: w, x + 1, hl, hs, hk, hx, ht, hne => by
    have hab : a = b ∧ v.take x = w.take x := by simpa using ht
    obtain ⟨rfl, ht2⟩ := hab
    have hl' : v.length = w.length := by simpa using hl
    have hs' : sumSz v = sumSz w := by simp only [sumSz] at hs; omega
    have h1 := sumSz_le v
    have h2 := sz13_le a
    have e : sumSz (a :: v) = sz13 a + sumSz v := rfl
    have ih := num_order (v := v) (w := w) x hl' hs' (by omega) (by simpa using hx) ht2 (by simpa using hne)
    simp only [List.getD_cons_succ]
    rw [← ih, numF, numF, ← hs, hl']; omega

/-! ### The functions of the program -/

theorem may_iff {n k : Int} : mayF n k = true ↔ 0 ≤ n ∧ n ≤ 8 ∧ 0 ≤ k ∧ k ≤ 12 := by simp [mayF]

theorem vec_ok {n k i : Int} (hm : 0 ≤ n ∧ n ≤ 8 ∧ 0 ≤ k ∧ k ≤ 12) (hi : 0 ≤ i) (hi2 : i < countF n k) :
    vecE n k i = 0 ∧ ((vecF n k i).length : Int) = n ∧ sumSz (vecF n k i) = k ∧ numF (vecF n k i) = i ∧ pulsesF (vecF n k i) = k ∧ indexF (vecF n k i) = (i, 0) := by
  have hc : countF n k = cnt n.toNat k.toNat := by unfold countF; rw [may_iff.2 hm]; rfl
  have e1 : vecF n k i = (vst n.toNat k i n.toNat).2.2 := by unfold vecF; rw [if_pos ⟨may_iff.2 hm, hi, hi2⟩]
  have e2 : vecE n k i = 0 := by unfold vecE; rw [may_iff.2 hm, if_pos rfl, if_pos ⟨hi, hi2⟩]
  obtain ⟨h1, h2, h3⟩ := vst_num (n := n.toNat) (k := k) (i := i) (by omega) hm.2.2.1 hm.2.2.2 hi (by omega)
  rw [← e1] at h1 h2 h3
  have hp : pulsesF (vecF n k i) = k := by unfold pulsesF; rw [if_neg (by omega)]; omega
  refine ⟨e2, by omega, h2, h3, hp, ?_⟩
  unfold indexF; rw [hp, if_neg (by omega), h3]

theorem index_ok {y : List Int} (h : (indexF y).2 = 0) : y.length ≤ 8 ∧ sumSz y ≤ 12 ∧ pulsesF y = sumSz y ∧ indexF y = (numF y, 0) ∧ 0 ≤ numF y ∧ numF y < countF y.length (sumSz y) ∧ vecF y.length (sumSz y) (numF y) = y := by
  have hp : ¬ 12 < pulsesF y := fun e => by unfold indexF at h; rw [if_pos e] at h; cases h
  have hl : ¬ 8 < y.length := fun e => by apply hp; unfold pulsesF; rw [if_pos e]; decide
  have hps : pulsesF y = min (sumSz y) 13 := by unfold pulsesF; rw [if_neg hl]
  have h0 := sumSz_le y
  have hn := numF_lt (y := y) (by omega)
  have hm : mayF (y.length : Int) (sumSz y) = true := may_iff.2 (by omega)
  have hc : countF y.length (sumSz y) = cnt y.length (sumSz y).toNat := by unfold countF; rw [hm]; rfl
  refine ⟨by omega, by omega, by omega, by unfold indexF; rw [if_neg hp], hn.1, by omega, ?_⟩
  unfold vecF
  rw [if_pos ⟨hm, hn.1, by omega⟩]
  exact vst_back (by omega) (by omega)

theorem index_bad {y : List Int} (h : (indexF y).2 ≠ 0) : 12 < pulsesF y ∧ (indexF y).1 = 0 := by
  unfold indexF at h ⊢
  split
  · exact ⟨by assumption, rfl⟩
  · rename_i hp; rw [if_neg hp] at h; exact absurd rfl h

end Go.SL.A

/- Plain functions of the document's answer for pvq. -/
namespace Go.SL.S
open Go Go.SL.A
def szR (x : Int) : Int := if x < 0 then IntKind.i64.wrap (0 - x) else x
def g1 (i a j : Nat) : Int := if j < a then cnt (i + 1) j else 0
def ptF (i a x : Nat) : Int := if x = 0 then 0 else cnt i a + 2 * revTo (cnt i) a (x - 1)
def g2 (i a x j : Nat) : Int := if j < a then cnt (i + 1) j else if j = a then ptF i a x else 0
/-- f 0, .. , f (n - 1). -/
def mapR (n : Nat) (f : Nat → Int) : List Int := (List.range n).map f
end Go.SL.S

/- Functions and what they are held to do: bound to their code. -/
namespace Go.SL.A
open Go Go.SL Go.SL.S
set_option maxRecDepth 100000
noncomputable def C48 : Ctx := ⟨Go.Proofs.Try.prog, D, G42, (fun _ _ => none), fun _ => []⟩
def ann48 (_x : Int) : Nat → St → Option Ann := fun _ _ => none
def out48 (x : Int) : COut := ⟨[], .v (.int .i64) (szR x), [], []⟩
def sp48 : Spec := fun args ins => match args, ins with
  | [⟨.int .i64, x⟩], [] => some (out48 x)
  | _, _ => none
def G48 := addG G42 41 sp48
def P48 (x : Int) : Prop :=
  bif decide (x < (0 : Int)) then IntKind.wrap IntKind.i64 ((0 : Int) - x) = szR x else x = szR x
theorem vc48 (x : Int) : P48 x = vcFun C48 (ann48 x) Go.Proofs.Try.f41 [⟨.int .i64, x⟩] [] (out48 x) := by kernel_rfl

noncomputable def C49 : Ctx := ⟨Go.Proofs.Try.prog, D, G48, (fun _ _ => none), fun _ => []⟩
def ann49 (n k : Int) : Nat → St → Option Ann := fun id S => match id with | 0 => some ⟨Nat, [0, 1], [], fun i => [(6, .v (.int .i64) (i : Int)), (5, .v (.ref .slice) (.slice 1 (.int .i64) [] 0 (k.toNat + 1)))], fun i => [(1, some ⟨false, false, .int .i64, mapR (k.toNat + 1) (cnt i)⟩)], fun i => i ≤ n.toNat, fun i => n.toNat - i⟩ | 2 => some ⟨Nat, [0, 1, 5, 6, 7], [1], fun a => [(8, .v (.int .i64) (a : Int))], fun a => [(2, some ⟨false, false, .int .i64, mapR (k.toNat + 1) (g1 (S.i 6).toNat a)⟩)], fun a => a ≤ k.toNat + 1, fun a => k.toNat + 1 - a⟩ | _ => some ⟨Nat, [0, 1, 5, 6, 7, 8], [1], fun x => [(9, .v (.int .i64) (x : Int))], fun x => [(2, some ⟨false, false, .int .i64, mapR (k.toNat + 1) (g2 (S.i 6).toNat (S.i 8).toNat x)⟩)], fun x => x ≤ (S.i 8).toNat + 1, fun x => (S.i 8).toNat + 1 - x⟩
def out49 (n k : Int) : COut := ⟨[0 ≤ n ∧ n ≤ 8 ∧ 0 ≤ k ∧ k ≤ 12], .v (.int .i64) (cnt n.toNat k.toNat), [], []⟩
def sp49 : Spec := fun args ins => match args, ins with
  | [⟨.int .i64, n⟩, ⟨.int .i64, k⟩], [] => some (out49 n k)
  | _, _ => none
def G49 := addG G48 62 sp49
def P49 (n k : Int) : Prop :=
  ((0 : Int) ≤ IntKind.wrap IntKind.i64 (k + (1 : Int)) ∧ IntKind.wrap IntKind.i64 (k + (1 : Int)) = IntKind.wrap IntKind.i64 (k + (1 : Int)) ∧ IntKind.wrap IntKind.i64 (k + (1 : Int)) * (↑(8 : Nat) : Int) ≤
  (↑(70368744177664 : Nat) : Int) ∧ IntKind.wrap IntKind.i64 (k + (1 : Int)) ≤ (↑(70368744177664 : Nat) : Int)) ∧ (((0 : Int) ≤ (0 : Int) ∧ (0 : Int) < (↑(Int.toNat (IntKind.wrap IntKind.i64 (k + (1 : Int)))) : Int)) ∧ (0 :
  Nat) < List.length (List.replicate (Int.toNat (IntKind.wrap IntKind.i64 (k + (1 : Int)))) (0 : Int))) ∧ ∃ (x : Nat), ((n = n ∧ k = k ∧ (0 : Nat) = (0 : Nat) ∧ Int.toNat (IntKind.wrap IntKind.i64 (k + (1 : Int))) =
  Int.toNat k + (1 : Nat) ∧ (0 : Int) = (↑x : Int) ∧ List.set (List.replicate (Int.toNat (IntKind.wrap IntKind.i64 (k + (1 : Int)))) (0 : Int)) (0 : Nat) (1 : Int) = mapR (Int.toNat k + (1 : Nat)) (cnt x) ∧ false = false) ∧
  x ≤ Int.toNat n) ∧ ∀ (x : Nat), x ≤ Int.toNat n → (IntKind.min IntKind.i64 ≤ (↑x : Int) ∧ (↑x : Int) ≤ IntKind.max IntKind.i64 ∧ ∀ (y : Int), List.Mem y (mapR (Int.toNat k + (1 : Nat)) (cnt x)) → IntKind.min IntKind.i64 ≤
  y ∧ y ≤ IntKind.max IntKind.i64) → bif decide ((↑x : Int) < n) then ((0 : Int) ≤ IntKind.wrap IntKind.i64 (k + (1 : Int)) ∧ IntKind.wrap IntKind.i64 (k + (1 : Int)) = IntKind.wrap IntKind.i64 (k + (1 : Int)) ∧
  IntKind.wrap IntKind.i64 (k + (1 : Int)) * (↑(8 : Nat) : Int) ≤ (↑(70368744177664 : Nat) : Int) ∧ IntKind.wrap IntKind.i64 (k + (1 : Int)) ≤ (↑(70368744177664 : Nat) : Int)) ∧ ∃ (x_1 : Nat), ((n = n ∧ k = k ∧ (0 : Nat) =
  (0 : Nat) ∧ Int.toNat k + (1 : Nat) = Int.toNat k + (1 : Nat) ∧ (↑x : Int) = (↑x : Int) ∧ (0 : Nat) = (0 : Nat) ∧ Int.toNat (IntKind.wrap IntKind.i64 (k + (1 : Int))) = Int.toNat (IntKind.wrap IntKind.i64 (k + (1 : Int)))
  ∧ (0 : Int) = (↑x_1 : Int) ∧ mapR (Int.toNat k + (1 : Nat)) (cnt x) = mapR (Int.toNat k + (1 : Nat)) (cnt x) ∧ false = false ∧ List.replicate (Int.toNat (IntKind.wrap IntKind.i64 (k + (1 : Int)))) (0 : Int) = mapR
  (Int.toNat k + (1 : Nat)) (g1 (Int.toNat (↑x : Int)) x_1) ∧ false = false) ∧ x_1 ≤ Int.toNat k + (1 : Nat)) ∧ ∀ (x_2 : Nat), x_2 ≤ Int.toNat k + (1 : Nat) → (IntKind.min IntKind.i64 ≤ (↑x_2 : Int) ∧ (↑x_2 : Int) ≤
  IntKind.max IntKind.i64 ∧ ∀ (y : Int), List.Mem y (mapR (Int.toNat k + (1 : Nat)) (g1 (Int.toNat (↑x : Int)) x_2)) → IntKind.min IntKind.i64 ≤ y ∧ y ≤ IntKind.max IntKind.i64) → bif decide ((↑x_2 : Int) ≤ k) then ∃ (x_3 :
  Nat), ((n = n ∧ k = k ∧ (0 : Nat) = (0 : Nat) ∧ Int.toNat k + (1 : Nat) = Int.toNat k + (1 : Nat) ∧ (↑x : Int) = (↑x : Int) ∧ (0 : Nat) = (0 : Nat) ∧ Int.toNat (IntKind.wrap IntKind.i64 (k + (1 : Int))) = Int.toNat
  (IntKind.wrap IntKind.i64 (k + (1 : Int))) ∧ (↑x_2 : Int) = (↑x_2 : Int) ∧ (0 : Int) = (↑x_3 : Int) ∧ mapR (Int.toNat k + (1 : Nat)) (cnt x) = mapR (Int.toNat k + (1 : Nat)) (cnt x) ∧ false = false ∧ mapR (Int.toNat k +
  (1 : Nat)) (g1 (Int.toNat (↑x : Int)) x_2) = mapR (Int.toNat k + (1 : Nat)) (g2 (Int.toNat (↑x : Int)) (Int.toNat (↑x_2 : Int)) x_3) ∧ false = false) ∧ x_3 ≤ Int.toNat (↑x_2 : Int) + (1 : Nat)) ∧ ∀ (x_4 : Nat), x_4 ≤
  Int.toNat (↑x_2 : Int) + (1 : Nat) → (IntKind.min IntKind.i64 ≤ (↑x_4 : Int) ∧ (↑x_4 : Int) ≤ IntKind.max IntKind.i64 ∧ ∀ (y : Int), List.Mem y (mapR (Int.toNat k + (1 : Nat)) (g2 (Int.toNat (↑x : Int)) (Int.toNat (↑x_2 :
  Int)) x_4)) → IntKind.min IntKind.i64 ≤ y ∧ y ≤ IntKind.max IntKind.i64) → bif decide ((↑x_4 : Int) ≤ (↑x_2 : Int)) then (((0 : Int) ≤ (↑x_2 : Int) ∧ (↑x_2 : Int) < (↑(Int.toNat (IntKind.wrap IntKind.i64 (k + (1 : Int))))
  : Int)) ∧ (0 : Nat) + Int.toNat (↑x_2 : Int) < List.length (mapR (Int.toNat k + (1 : Nat)) (g2 (Int.toNat (↑x : Int)) (Int.toNat (↑x_2 : Int)) x_4)) ∧ ((0 : Int) ≤ IntKind.wrap IntKind.i64 ((↑x_2 : Int) - (↑x_4 : Int)) ∧
  IntKind.wrap IntKind.i64 ((↑x_2 : Int) - (↑x_4 : Int)) < (↑(Int.toNat k + (1 : Nat)) : Int)) ∧ (0 : Nat) + Int.toNat (IntKind.wrap IntKind.i64 ((↑x_2 : Int) - (↑x_4 : Int))) < List.length (mapR (Int.toNat k + (1 : Nat))
  (cnt x)) ∧ ((0 : Int) ≤ (↑x_2 : Int) ∧ (↑x_2 : Int) < (↑(Int.toNat (IntKind.wrap IntKind.i64 (k + (1 : Int)))) : Int)) ∧ (0 : Nat) + Int.toNat (↑x_2 : Int) < List.length (mapR (Int.toNat k + (1 : Nat)) (g2 (Int.toNat (↑x
  : Int)) (Int.toNat (↑x_2 : Int)) x_4))) ∧ bif decide ((0 : Int) < (↑x_4 : Int)) then (((0 : Int) ≤ (↑x_2 : Int) ∧ (↑x_2 : Int) < (↑(Int.toNat (IntKind.wrap IntKind.i64 (k + (1 : Int)))) : Int)) ∧ (0 : Nat) + Int.toNat
  (↑x_2 : Int) < List.length (List.set (mapR (Int.toNat k + (1 : Nat)) (g2 (Int.toNat (↑x : Int)) (Int.toNat (↑x_2 : Int)) x_4)) ((0 : Nat) + Int.toNat (↑x_2 : Int)) (IntKind.wrap IntKind.i64 (List.getD (mapR (Int.toNat k +
  (1 : Nat)) (g2 (Int.toNat (↑x : Int)) (Int.toNat (↑x_2 : Int)) x_4)) ((0 : Nat) + Int.toNat (↑x_2 : Int)) (0 : Int) + List.getD (mapR (Int.toNat k + (1 : Nat)) (cnt x)) ((0 : Nat) + Int.toNat (IntKind.wrap IntKind.i64
  ((↑x_2 : Int) - (↑x_4 : Int)))) (0 : Int)))) ∧ ((0 : Int) ≤ IntKind.wrap IntKind.i64 ((↑x_2 : Int) - (↑x_4 : Int)) ∧ IntKind.wrap IntKind.i64 ((↑x_2 : Int) - (↑x_4 : Int)) < (↑(Int.toNat k + (1 : Nat)) : Int)) ∧ (0 : Nat)
  + Int.toNat (IntKind.wrap IntKind.i64 ((↑x_2 : Int) - (↑x_4 : Int))) < List.length (mapR (Int.toNat k + (1 : Nat)) (cnt x)) ∧ ((0 : Int) ≤ (↑x_2 : Int) ∧ (↑x_2 : Int) < (↑(Int.toNat (IntKind.wrap IntKind.i64 (k + (1 :
  Int)))) : Int)) ∧ (0 : Nat) + Int.toNat (↑x_2 : Int) < List.length (List.set (mapR (Int.toNat k + (1 : Nat)) (g2 (Int.toNat (↑x : Int)) (Int.toNat (↑x_2 : Int)) x_4)) ((0 : Nat) + Int.toNat (↑x_2 : Int)) (IntKind.wrap
  IntKind.i64 (List.getD (mapR (Int.toNat k + (1 : Nat)) (g2 (Int.toNat (↑x : Int)) (Int.toNat (↑x_2 : Int)) x_4)) ((0 : Nat) + Int.toNat (↑x_2 : Int)) (0 : Int) + List.getD (mapR (Int.toNat k + (1 : Nat)) (cnt x)) ((0 :
  Nat) + Int.toNat (IntKind.wrap IntKind.i64 ((↑x_2 : Int) - (↑x_4 : Int)))) (0 : Int))))) ∧ ∃ (y : Nat), (n = n ∧ k = k ∧ (0 : Nat) = (0 : Nat) ∧ Int.toNat k + (1 : Nat) = Int.toNat k + (1 : Nat) ∧ (↑x : Int) = (↑x : Int)
  ∧ (0 : Nat) = (0 : Nat) ∧ Int.toNat (IntKind.wrap IntKind.i64 (k + (1 : Int))) = Int.toNat (IntKind.wrap IntKind.i64 (k + (1 : Int))) ∧ (↑x_2 : Int) = (↑x_2 : Int) ∧ IntKind.wrap IntKind.i64 ((↑x_4 : Int) + (1 : Int)) =
  (↑y : Int) ∧ mapR (Int.toNat k + (1 : Nat)) (cnt x) = mapR (Int.toNat k + (1 : Nat)) (cnt x) ∧ false = false ∧ List.set (List.set (mapR (Int.toNat k + (1 : Nat)) (g2 (Int.toNat (↑x : Int)) (Int.toNat (↑x_2 : Int)) x_4))
  ((0 : Nat) + Int.toNat (↑x_2 : Int)) (IntKind.wrap IntKind.i64 (List.getD (mapR (Int.toNat k + (1 : Nat)) (g2 (Int.toNat (↑x : Int)) (Int.toNat (↑x_2 : Int)) x_4)) ((0 : Nat) + Int.toNat (↑x_2 : Int)) (0 : Int) +
  List.getD (mapR (Int.toNat k + (1 : Nat)) (cnt x)) ((0 : Nat) + Int.toNat (IntKind.wrap IntKind.i64 ((↑x_2 : Int) - (↑x_4 : Int)))) (0 : Int)))) ((0 : Nat) + Int.toNat (↑x_2 : Int)) (IntKind.wrap IntKind.i64 (List.getD
  (List.set (mapR (Int.toNat k + (1 : Nat)) (g2 (Int.toNat (↑x : Int)) (Int.toNat (↑x_2 : Int)) x_4)) ((0 : Nat) + Int.toNat (↑x_2 : Int)) (IntKind.wrap IntKind.i64 (List.getD (mapR (Int.toNat k + (1 : Nat)) (g2 (Int.toNat
  (↑x : Int)) (Int.toNat (↑x_2 : Int)) x_4)) ((0 : Nat) + Int.toNat (↑x_2 : Int)) (0 : Int) + List.getD (mapR (Int.toNat k + (1 : Nat)) (cnt x)) ((0 : Nat) + Int.toNat (IntKind.wrap IntKind.i64 ((↑x_2 : Int) - (↑x_4 :
  Int)))) (0 : Int)))) ((0 : Nat) + Int.toNat (↑x_2 : Int)) (0 : Int) + List.getD (mapR (Int.toNat k + (1 : Nat)) (cnt x)) ((0 : Nat) + Int.toNat (IntKind.wrap IntKind.i64 ((↑x_2 : Int) - (↑x_4 : Int)))) (0 : Int))) = mapR
  (Int.toNat k + (1 : Nat)) (g2 (Int.toNat (↑x : Int)) (Int.toNat (↑x_2 : Int)) y) ∧ false = false) ∧ y ≤ Int.toNat (↑x_2 : Int) + (1 : Nat) ∧ Int.toNat (↑x_2 : Int) + (1 : Nat) - y < Int.toNat (↑x_2 : Int) + (1 : Nat) -
  x_4 else ∃ (y : Nat), (n = n ∧ k = k ∧ (0 : Nat) = (0 : Nat) ∧ Int.toNat k + (1 : Nat) = Int.toNat k + (1 : Nat) ∧ (↑x : Int) = (↑x : Int) ∧ (0 : Nat) = (0 : Nat) ∧ Int.toNat (IntKind.wrap IntKind.i64 (k + (1 : Int))) =
  Int.toNat (IntKind.wrap IntKind.i64 (k + (1 : Int))) ∧ (↑x_2 : Int) = (↑x_2 : Int) ∧ IntKind.wrap IntKind.i64 ((↑x_4 : Int) + (1 : Int)) = (↑y : Int) ∧ mapR (Int.toNat k + (1 : Nat)) (cnt x) = mapR (Int.toNat k + (1 :
  Nat)) (cnt x) ∧ false = false ∧ List.set (mapR (Int.toNat k + (1 : Nat)) (g2 (Int.toNat (↑x : Int)) (Int.toNat (↑x_2 : Int)) x_4)) ((0 : Nat) + Int.toNat (↑x_2 : Int)) (IntKind.wrap IntKind.i64 (List.getD (mapR (Int.toNat
  k + (1 : Nat)) (g2 (Int.toNat (↑x : Int)) (Int.toNat (↑x_2 : Int)) x_4)) ((0 : Nat) + Int.toNat (↑x_2 : Int)) (0 : Int) + List.getD (mapR (Int.toNat k + (1 : Nat)) (cnt x)) ((0 : Nat) + Int.toNat (IntKind.wrap IntKind.i64
  ((↑x_2 : Int) - (↑x_4 : Int)))) (0 : Int))) = mapR (Int.toNat k + (1 : Nat)) (g2 (Int.toNat (↑x : Int)) (Int.toNat (↑x_2 : Int)) y) ∧ false = false) ∧ y ≤ Int.toNat (↑x_2 : Int) + (1 : Nat) ∧ Int.toNat (↑x_2 : Int) + (1 :
  Nat) - y < Int.toNat (↑x_2 : Int) + (1 : Nat) - x_4 else ∃ (y : Nat), (n = n ∧ k = k ∧ (0 : Nat) = (0 : Nat) ∧ Int.toNat k + (1 : Nat) = Int.toNat k + (1 : Nat) ∧ (↑x : Int) = (↑x : Int) ∧ (0 : Nat) = (0 : Nat) ∧
  Int.toNat (IntKind.wrap IntKind.i64 (k + (1 : Int))) = Int.toNat (IntKind.wrap IntKind.i64 (k + (1 : Int))) ∧ IntKind.wrap IntKind.i64 ((↑x_2 : Int) + (1 : Int)) = (↑y : Int) ∧ mapR (Int.toNat k + (1 : Nat)) (cnt x) =
  mapR (Int.toNat k + (1 : Nat)) (cnt x) ∧ false = false ∧ mapR (Int.toNat k + (1 : Nat)) (g2 (Int.toNat (↑x : Int)) (Int.toNat (↑x_2 : Int)) x_4) = mapR (Int.toNat k + (1 : Nat)) (g1 (Int.toNat (↑x : Int)) y) ∧ false =
  false) ∧ y ≤ Int.toNat k + (1 : Nat) ∧ Int.toNat k + (1 : Nat) - y < Int.toNat k + (1 : Nat) - x_2 else ∃ (y : Nat), (n = n ∧ k = k ∧ (0 : Nat) = (0 : Nat) ∧ Int.toNat (IntKind.wrap IntKind.i64 (k + (1 : Int))) =
  Int.toNat k + (1 : Nat) ∧ IntKind.wrap IntKind.i64 ((↑x : Int) + (1 : Int)) = (↑y : Int) ∧ mapR (Int.toNat k + (1 : Nat)) (g1 (Int.toNat (↑x : Int)) x_2) = mapR (Int.toNat k + (1 : Nat)) (cnt y) ∧ false = false) ∧ y ≤
  Int.toNat n ∧ Int.toNat n - y < Int.toNat n - x else (((0 : Int) ≤ k ∧ k < (↑(Int.toNat k + (1 : Nat)) : Int)) ∧ (0 : Nat) + Int.toNat k < List.length (mapR (Int.toNat k + (1 : Nat)) (cnt x))) ∧ List.getD (mapR (Int.toNat
  k + (1 : Nat)) (cnt x)) ((0 : Nat) + Int.toNat k) (0 : Int) = cnt (Int.toNat n) (Int.toNat k)
theorem vc49 (n k : Int) : P49 n k = vcFun C49 (ann49 n k) Go.Proofs.Try.f62 [⟨.int .i64, n⟩, ⟨.int .i64, k⟩] [] (out49 n k) := by kernel_rfl

end Go.SL.A

/- How the document counts vectors: proofs. -/
namespace Go.SL.A
open Go Go.SL Go.SL.S

theorem mapR_len (n : Nat) (f : Nat → Int) : (mapR n f).length = n := by simp [mapR]
theorem mapR_get {n j : Nat} {f : Nat → Int} (h : j < n) : (mapR n f).getD j 0 = f j := by simp [mapR, h]
theorem mapR_congr {n : Nat} {f g : Nat → Int} (h : ∀ j, j < n → f j = g j) : mapR n f = mapR n g := List.map_congr_left fun j hj => h j (List.mem_range.1 hj)
theorem mapR_set {n j : Nat} {f g : Nat → Int} {v : Int} (h : ∀ i, i < n → g i = if i = j then v else f i) : (mapR n f).set j v = mapR n g := by
  unfold mapR; rw [set_map_range]; exact List.map_congr_left fun i hi => (h i (List.mem_range.1 hi)).symm
theorem mapR_rep (n : Nat) : List.replicate n (0 : Int) = mapR n fun _ => 0 := by
  unfold mapR; rw [List.map_const']; simp

theorem pure48 (x : Int) : P48 x := by
  unfold P48 szR
  by_cases h : x < 0 <;> simp [h]

theorem revTo_mono {f : Nat → Int} (h : ∀ i, 0 ≤ f i) (K : Nat) : ∀ J d, revTo f K J ≤ revTo f K (J + d)
  | J, 0 => Int.le_refl _
  | J, d + 1 => by have := revTo_mono h K J d; have := h (K - (J + d + 1)); rw [← Nat.add_assoc, revTo]; omega

theorem ptF_le (i a x : Nat) (h : x ≤ a + 1) : 0 ≤ ptF i a x ∧ ptF i a x ≤ cnt (i + 1) a := by
  have hn := cnt_sum i a
  have h1 := (cnt_le i a).1
  have h0 := (cnt_le (i + 1) a).1
  have h2 := revTo_sum (cnt i) a a (Nat.le_refl _)
  rw [Nat.sub_self, show sumTo (cnt i) 0 = 0 from rfl] at h2
  unfold ptF
  split
  · omega
  · have h3 := revTo_mono (f := cnt i) (fun j => (cnt_le i j).1) a (x - 1) (a - (x - 1))
    have h4 := revTo_mono (f := cnt i) (fun j => (cnt_le i j).1) a 0 (x - 1)
    rw [show x - 1 + (a - (x - 1)) = a by omega] at h3
    rw [Nat.zero_add, show revTo (cnt i) a 0 = 0 from rfl] at h4
    omega

theorem ptF_all (i a : Nat) : ptF i a (a + 1) = cnt (i + 1) a := by
  have hn := cnt_sum i a
  have h2 := revTo_sum (cnt i) a a (Nat.le_refl _)
  rw [Nat.sub_self, show sumTo (cnt i) 0 = 0 from rfl] at h2
  unfold ptF
  rw [if_neg (by omega), Nat.add_sub_cancel]; omega

theorem pure49 (n k : Int) (h : 0 ≤ n ∧ n ≤ 8 ∧ 0 ≤ k ∧ k ≤ 12) : P49 n k := by
  obtain ⟨N, rfl⟩ : ∃ N : Nat, n = N := ⟨n.toNat, by omega⟩
  obtain ⟨K, rfl⟩ : ∃ K : Nat, k = K := ⟨k.toNat, by omega⟩
  have hN : N ≤ 8 := by omega
  have hK : K ≤ 12 := by omega
  have wk : IntKind.i64.wrap ((K : Int) + 1) = ((K + 1 : Nat) : Int) := by rw [w64 (by omega) (by omega)]; simp
  unfold P49
  simp only [Int.toNat_natCast, Nat.zero_add, eq_self, true_and, and_true, wk, mapR_len, List.length_replicate]
  refine ⟨⟨by omega, by omega, by omega⟩, ⟨by omega, by omega⟩, 0, ⟨⟨rfl, ?_⟩, by omega⟩, fun i hi _ => ?_⟩
  · rw [mapR_rep]
    refine mapR_set fun j hj => ?_
    cases j <;> simp [cnt, cnt0]
  by_cases hin : (i : Int) < (N : Int)
  · have wi : IntKind.i64.wrap ((i : Int) + 1) = ((i + 1 : Nat) : Int) := by rw [w64 (by omega) (by omega)]; simp
    simp only [hin, decide_true, cond_true, wi]
    refine ⟨⟨by omega, by omega, by omega⟩, 0, ⟨⟨rfl, ?_⟩, by omega⟩, fun a ha _ => ?_⟩
    · rw [mapR_rep]; exact mapR_congr fun j _ => by simp [g1]
    by_cases hak : (a : Int) ≤ (K : Int)
    · have wa : IntKind.i64.wrap ((a : Int) + 1) = ((a + 1 : Nat) : Int) := by rw [w64 (by omega) (by omega)]; simp
      simp only [hak, decide_true, cond_true, wa]
      refine ⟨0, ⟨⟨rfl, ?_⟩, by omega⟩, fun x hx _ => ?_⟩
      · exact mapR_congr fun j _ => by unfold g1 g2 ptF; simp
      by_cases hxa : (x : Int) ≤ (a : Int)
      · have wx : IntKind.i64.wrap ((x : Int) + 1) = ((x + 1 : Nat) : Int) := by rw [w64 (by omega) (by omega)]; simp
        have ws : IntKind.i64.wrap ((a : Int) - (x : Int)) = ((a - x : Nat) : Int) := by rw [w64 (by omega) (by omega)]; omega
        have e1 := mapR_get (n := K + 1) (j := a - x) (f := cnt i) (by omega)
        have e2 := mapR_get (n := K + 1) (j := a) (f := g2 i a x) (by omega)
        have e3 : g2 i a x a = ptF i a x := by simp [g2]
        have p1 := ptF_le i a x (by omega)
        have p2 := ptF_le i a (x + 1) (by omega)
        have c1 := cnt_fits (n := i + 1) (k := a) (by omega) (by omega)
        have c2 := cnt_fits (n := i) (k := a - x) (by omega) (by omega)
        have w1 : IntKind.i64.wrap (ptF i a x + cnt i (a - x)) = ptF i a x + cnt i (a - x) := w64 (by omega) (by omega)
        simp only [hxa, decide_true, cond_true, wx, ws, Int.toNat_natCast, e1, e2, e3, w1]
        by_cases hx0 : (0 : Int) < (x : Int)
        · have ep : ptF i a (x + 1) = ptF i a x + cnt i (a - x) + cnt i (a - x) := by
            unfold ptF
            rw [if_neg (by omega), if_neg (by omega), show x + 1 - 1 = x - 1 + 1 by omega, revTo, show x - 1 + 1 = x by omega]; omega
          have w2 : IntKind.i64.wrap (ptF i a x + cnt i (a - x) + cnt i (a - x)) = ptF i a x + cnt i (a - x) + cnt i (a - x) := w64 (by omega) (by omega)
          have e4 : ((mapR (K + 1) (g2 i a x)).set a (ptF i a x + cnt i (a - x))).getD a 0 = ptF i a x + cnt i (a - x) := by
            rw [List.getD_eq_getElem?_getD, List.getElem?_set_self (by rw [mapR_len]; omega)]; rfl
          simp only [hx0, decide_true, cond_true, e4, w2, List.length_set, mapR_len, List.set_set]
          refine ⟨by omega, by omega, x + 1, ⟨rfl, ?_⟩, by omega, by omega⟩
          refine mapR_set fun j _ => ?_
          unfold g2
          by_cases ej : j = a
          · subst ej; simp [ep]
          · simp [ej]
        · have hx00 : x = 0 := by omega
          subst hx00
          have ep : ptF i a (0 + 1) = ptF i a 0 + cnt i (a - 0) := by simp [ptF, revTo]
          simp only [hx0, decide_false, cond_false]
          refine ⟨by omega, 0 + 1, ⟨rfl, ?_⟩, by omega, by omega⟩
          refine mapR_set fun j _ => ?_
          unfold g2
          by_cases ej : j = a
          · subst ej; simp [ep]
          · simp [ej]
      · have : x = a + 1 := by omega
        subst this
        simp only [hxa, decide_false, cond_false]
        refine ⟨a + 1, ⟨rfl, mapR_congr fun j _ => ?_⟩, by omega, by omega⟩
        unfold g1 g2
        by_cases e1 : j < a
        · rw [if_pos e1, if_pos (by omega)]
        · by_cases e2 : j = a
          · subst e2; rw [if_neg e1, if_pos rfl, if_pos (by omega), ptF_all]
          · rw [if_neg e1, if_neg e2, if_neg (by omega)]
    · have : a = K + 1 := by omega
      subst this
      simp only [hak, decide_false, cond_false]
      refine ⟨i + 1, ⟨rfl, mapR_congr fun j hj => ?_⟩, by omega, by omega⟩
      unfold g1; rw [if_pos hj]
  · have : i = N := by omega
    subst this
    simp only [hin, decide_false, cond_false]
    exact ⟨⟨⟨by omega, by omega⟩, by omega⟩, mapR_get (by omega)⟩

end Go.SL.A

/- Functions do what they are held to do. -/
namespace Go.SL.A
open Go Go.SL Go.SL.S
theorem snd48 : Sound Go.Proofs.Try.prog G48 := snd42.add ⟨_, Go.Proofs.Try.func41, by kernel_rfl, by kernel_rfl⟩ (by
  intro args ins out h hp
  unfold sp48 at h
  split at h
  · rename_i x
    cases h
    exact vcFun_ok (C := C48) good snd42 Meth.none mix Go.Proofs.Try.func41 (ann48 x) (fun hw => by rw [← vc48 x]; exact pure48 x)
  · cases h)

theorem snd49 : Sound Go.Proofs.Try.prog G49 := snd48.add ⟨_, Go.Proofs.Try.func62, by kernel_rfl, by kernel_rfl⟩ (by
  intro args ins out h hp
  unfold sp49 at h
  split at h
  · rename_i n k
    cases h
    exact vcFun_ok (C := C49) good snd48 Meth.none mix Go.Proofs.Try.func62 (ann49 n k) (fun hw => by rw [← vc49 n k]; exact pure49 n k hp)
  · cases h)

end Go.SL.A

/- The document's vectors of four, in order: plain functions. -/
namespace Go.SL.S
open Go
def rowF (k x y z : Int) : List (List Int) :=
  if k - szR x - szR y - szR z < 0 then [] else if 0 < k - szR x - szR y - szR z then [[x, y, z, k - szR x - szR y - szR z], [x, y, z, -(k - szR x - szR y - szR z)]] else [[x, y, z, k - szR x - szR y - szR z]]
def rows2 (k : Int) (o : List Int) (x y : Int) : List (List Int) := o.flatMap (rowF k x y)
def rows1 (k : Int) (o : List Int) (x : Int) : List (List Int) := o.flatMap (rows2 k o x)
def stA (K a : Nat) : List (List Int) := ((numsF K).take a).flatMap (rows1 K (numsF K))
def stB (K a b : Nat) : List (List Int) := stA K a ++ ((numsF K).take b).flatMap (rows2 K (numsF K) ((numsF K).getD a 0))
def stC (K a b c : Nat) : List (List Int) := stB K a b ++ ((numsF K).take c).flatMap (rowF K ((numsF K).getD a 0) ((numsF K).getD b 0))
def allF (K : Nat) : List (List Int) := stA K (2 * K + 1)
end Go.SL.S
namespace Go.SL.A
open Go Go.SL
def G49v := viewG G49
theorem snd49v : Sound Go.Proofs.Try.prog G49v := snd49.view
end Go.SL.A

/- Functions and what they are held to do: bound to their code. -/
namespace Go.SL.A
open Go Go.SL Go.SL.S
set_option maxRecDepth 100000
end Go.SL.A

/- The document's vectors of four: the code. -/
namespace Go.SL.A
open Go Go.SL Go.SL.S

theorem szR_nums {K : Nat} (hK : K ≤ 12) {z : Int} (h : z ∈ numsF K) : 0 ≤ szR z ∧ szR z ≤ K ∧ (szR z = z ∨ szR z = -z) := by
  have := mem_numsF.1 h
  unfold szR
  split
  · rw [w64 (by omega) (by omega)]; omega
  · omega

theorem rowF_len (k x y z : Int) : (rowF k x y z).length ≤ 2 := by
  unfold rowF; split
  · simp
  · split <;> simp

theorem flat_len {α β : Type} {f : α → List β} {m : Nat} (h : ∀ x, (f x).length ≤ m) : ∀ l : List α, (l.flatMap f).length ≤ l.length * m
  | [] => by simp
  | x :: l => by
    have := h x
    have := flat_len h l
    rw [List.flatMap_cons, List.length_append, List.length_cons, Nat.add_mul]; omega

theorem st_lens {K : Nat} (hK : K ≤ 12) (a b c : Nat) : (stA K a).length ≤ 31250 ∧ (stB K a b).length ≤ 32500 ∧ (stC K a b c).length ≤ 32550 := by
  have hl := numsF_len K
  have t : ∀ n, ((numsF K).take n).length ≤ 25 := fun n => by rw [List.length_take]; omega
  have r2 : ∀ x y, (rows2 K (numsF K) x y).length ≤ 50 := fun x y => by
    have := flat_len (m := 2) (fun z => rowF_len K x y z) (numsF K)
    unfold rows2; omega
  have r1 : ∀ x, (rows1 K (numsF K) x).length ≤ 1250 := fun x => by
    have := flat_len (m := 50) (fun z => r2 x z) (numsF K)
    unfold rows1; omega
  have hA : (stA K a).length ≤ 31250 := by
    have := flat_len (m := 1250) r1 ((numsF K).take a)
    have := t a
    unfold stA; omega
  have hB : (stB K a b).length ≤ 32500 := by
    have := flat_len (m := 50) (fun z => r2 ((numsF K).getD a 0) z) ((numsF K).take b)
    have := t b
    unfold stB; rw [List.length_append]; omega
  have hC : (stC K a b c).length ≤ 32550 := by
    have := flat_len (m := 2) (fun z => rowF_len K ((numsF K).getD a 0) ((numsF K).getD b 0) z) ((numsF K).take c)
    have := t c
    unfold stC; rw [List.length_append]; omega
  exact ⟨hA, hB, hC⟩

theorem stC_succ {K a b c : Nat} (hc : c < 2 * K + 1) : stC K a b (c + 1) = stC K a b c ++ rowF K ((numsF K).getD a 0) ((numsF K).getD b 0) ((numsF K).getD c 0) := by
  unfold stC
  rw [take_snoc' 0 (by rw [numsF_len]; omega), List.flatMap_append]; simp

theorem stC_all {K a b : Nat} (hb : b < 2 * K + 1) : stC K a b (2 * K + 1) = stB K a (b + 1) := by
  unfold stC stB rows2
  rw [take_snoc' (k := b) 0 (by rw [numsF_len]; omega), List.flatMap_append, List.take_of_length_le (l := numsF K) (i := 2 * K + 1) (by rw [numsF_len]; omega)]; simp

theorem stB_all {K a : Nat} (ha : a < 2 * K + 1) : stB K a (2 * K + 1) = stA K (a + 1) := by
  unfold stB stA rows1
  rw [take_snoc' (k := a) 0 (by rw [numsF_len]; omega), List.flatMap_append, List.take_of_length_le (l := numsF K) (i := 2 * K + 1) (by rw [numsF_len]; omega)]; simp

theorem seg1 {α : Type} (x : α) (l : List α) : seg (x :: l) 0 1 = [x] := rfl

end Go.SL.A

/- Functions do what they are held to do. -/
namespace Go.SL.A
open Go Go.SL Go.SL.S
end Go.SL.A

/- Methods of types that lie in interfaces: none of pulse's here. -/
namespace Go.SL.A
open Go Go.SL
def meth14 : MethT := fun _ _ => none
theorem methOk : Meth Go.Proofs.Try.prog meth14 := Meth.none
end Go.SL.A

/- Plain functions of pulse. -/
namespace Go.SL.S
open Go Go.SL
abbrev WT : Ty := .cons (.int .i64) (.cons (.int .i64) (.cons (.int .i64) (.last (.int .i64))))
def gainF (s : Int) : Int := if s < 0 ∨ 15 < s then 0 else 2 ^ s.toNat
def absF (x : Int) : Int := max x (-x)
def heldF (c : List Int) : Bool := c.all fun x => decide (-1048576 ≤ x ∧ x ≤ 1048576)
def fallF (s n g : Int) : Int := absF (s - n * g) - absF (s - (n + 1) * g)
end Go.SL.S

/- Functions and what they are held to do: bound to their code. -/
namespace Go.SL.A
open Go Go.SL Go.SL.S
set_option maxRecDepth 100000
end Go.SL.A

/- Pulse: small functions. -/
namespace Go.SL.A
open Go Go.SL Go.SL.S

theorem absF_le (x : Int) : 0 ≤ absF x ∧ (absF x = x ∨ absF x = -x) := by unfold absF; omega

theorem heldF_step {c : List Int} {i : Nat} (hi : i < c.length) : heldF (c.take (i + 1)) = (heldF (c.take i) && decide (-1048576 ≤ c.getD i 0 ∧ c.getD i 0 ≤ 1048576)) := by
  unfold heldF; rw [take_snoc' 0 hi, List.all_append]; simp

theorem heldF_not {c : List Int} {i : Nat} (hi : i < c.length) (h : ¬ (-1048576 ≤ c.getD i 0 ∧ c.getD i 0 ≤ 1048576)) : heldF c = false := by
  unfold heldF
  rw [List.all_eq_false]
  exact ⟨c.getD i 0, getD_mem hi, by simpa using h⟩

theorem hw93 {c : List Int} (hw : Go.SL.allP (List.flatMap (fun a : AV => a.t.wf a.x) [⟨.arr 4 (.int .i64), c⟩] ++ List.flatMap Blk.wf [])) : c.length = 4 := by
  simp only [List.flatMap_cons, List.flatMap_nil, Ty.wf, List.append_nil, List.cons_append, List.nil_append, Go.SL.allP] at hw
  exact hw.1

theorem gain_cases {s : Int} (h : 0 ≤ s ∧ s ≤ 15) : s = 0 ∨ s = 1 ∨ s = 2 ∨ s = 3 ∨ s = 4 ∨ s = 5 ∨ s = 6 ∨ s = 7 ∨ s = 8 ∨ s = 9 ∨ s = 10 ∨ s = 11 ∨ s = 12 ∨ s = 13 ∨ s = 14 ∨ s = 15 := by omega

end Go.SL.A

/- Functions do what they are held to do. -/
namespace Go.SL.A
open Go Go.SL Go.SL.S
end Go.SL.A

/- Heaps: plain functions. -/
namespace Go.SL.S
open Go Go.SL
abbrev W : Type := Int × Int × Int × Int
def wz : W := (0, 0, 0, 0)
def fallW (w : W) : Int := fallF w.2.1 w.2.2.1 w.2.2.2
def okW (w : W) : Prop := 0 ≤ w.2.1 ∧ w.2.1 ≤ 1048576 ∧ 0 ≤ w.2.2.1 ∧ w.2.2.1 ≤ 100 ∧ 0 ≤ w.2.2.2 ∧ w.2.2.2 ≤ 32768
def ltW (a b : W) : Bool := decide (fallW b < fallW a) || (decide (fallW a = fallW b) && decide (a.1 < b.1))
theorem ltW_ord : Ord ltW where
  asym := fun a b h => by
    simp only [ltW, Bool.or_eq_true, Bool.and_eq_true, decide_eq_true_eq, Bool.or_eq_false_iff, Bool.and_eq_false_iff, decide_eq_false_iff_not] at h ⊢
    omega
  tr := fun a b c h1 h2 => by
    simp only [ltW, Bool.or_eq_false_iff, Bool.and_eq_false_iff, decide_eq_false_iff_not] at h1 h2 ⊢
    omega
theorem ltW_fall {a b : W} (h : ltW a b = false) : fallW a ≤ fallW b := by
  simp only [ltW, Bool.or_eq_false_iff, decide_eq_false_iff_not] at h
  omega
end Go.SL.S

/- Functions and what they are held to do: bound to their code. -/
namespace Go.SL.A
open Go Go.SL Go.SL.S
set_option maxRecDepth 100000
end Go.SL.A

/- Heaps of wants: their methods. -/
namespace Go.SL.A
open Go Go.SL Go.SL.S

end Go.SL.A

/- Functions do what they are held to do. -/
namespace Go.SL.A
open Go Go.SL Go.SL.S
end Go.SL.A

/- Heaps: how far up and down takes. -/
namespace Go.SL.S
open Go Go.SL
theorem upL_fuel {α : Type} (lt : α → α → Bool) (d : α) : ∀ (f : Nat) (l : List α) (j : Nat), j < f → upL lt d f l j = upL lt d (j + 1) l j := by
  intro f
  induction f using Nat.strongRecOn with
  | ind f ih =>
    intro l j h
    obtain ⟨f, rfl⟩ : ∃ g, f = g + 1 := ⟨f - 1, by omega⟩
    rw [upL, upL]
    cases h1 : decide ((j - 1) / 2 = j) with
    | true => rfl
    | false =>
      cases h2 : lt (l.getD j d) (l.getD ((j - 1) / 2) d) with
      | false => rfl
      | true =>
        have h1 := of_decide_eq_false h1
        by_cases hj : j < f
        · simp only
          rw [ih f (by omega) _ ((j - 1) / 2) (by omega), ih j (by omega) _ ((j - 1) / 2) (by omega)]
        · have : f = j := by omega
          rw [this]

theorem downL_fuel {α : Type} (lt : α → α → Bool) (d : α) (n : Nat) : ∀ (f : Nat) (l : List α) (i : Nat), n - i ≤ f → downL lt d n f l i = downL lt d n (n - i) l i := by
  intro f
  induction f using Nat.strongRecOn with
  | ind f ih =>
    intro l i h
    by_cases hin : 2 * i + 1 < n
    · obtain ⟨f, rfl⟩ : ∃ g, f = g + 1 := ⟨f - 1, by omega⟩
      obtain ⟨e, he⟩ : ∃ e, n - i = e + 1 := ⟨n - i - 1, by omega⟩
      rw [he, downL, downL]
      have hc := childL_cases lt d l i n
      generalize childL lt d l i n = c at *
      cases decide (2 * i + 1 < n) with
      | false => rfl
      | true =>
        cases lt (l.getD c d) (l.getD i d) with
        | false => rfl
        | true =>
          simp only
          rw [ih f (by omega) _ c (by omega)]
          by_cases hef : e = f
          · rw [hef, ih f (by omega) _ c (by omega)]
          · rw [ih e (by omega) _ c (by omega)]
    · have stop : ∀ f, downL lt d n f l i = (l, i) := by
        intro f
        cases f with
        | zero => rfl
        | succ f => rw [downL, decide_eq_false hin]
      rw [stop, stop]
end Go.SL.S

/- Functions and what they are held to do: bound to their code. -/
namespace Go.SL.A
open Go Go.SL Go.SL.S
set_option maxRecDepth 100000
end Go.SL.A

/- Heaps of wants: up, down, push, fix. -/
namespace Go.SL.A
open Go Go.SL Go.SL.S

theorem half_up {k : Nat} (h : k ≤ 1000000) : IntKind.i64.wrap (Int.tdiv (IntKind.i64.wrap ((k : Int) - 1)) 2) = (((k - 1) / 2 : Nat) : Int) := by
  rw [w64 (n := (k : Int) - 1) (by omega) (by omega)]
  have d := tdm ((k : Int) - 1) (k := 2) (by decide)
  generalize Int.tdiv ((k : Int) - 1) 2 = q at *
  generalize Int.tmod ((k : Int) - 1) 2 = r at *
  rw [w64 (by omega) (by omega)]
  omega

theorem downL_stop {α : Type} (lt : α → α → Bool) (d : α) {n i : Nat} (l : List α) (h : ¬ 2 * i + 1 < n) (f : Nat) : downL lt d n f l i = (l, i) := by
  cases f with
  | zero => rfl
  | succ f => rw [downL, decide_eq_false h]

theorem downL_step {α : Type} (lt : α → α → Bool) (d : α) {n i : Nat} (l : List α) (h : 2 * i + 1 < n) : downL lt d n (n - i) l i =
    bif lt (l.getD (childL lt d l i n) d) (l.getD i d) then downL lt d n (n - childL lt d l i n) (swapL d l i (childL lt d l i n)) (childL lt d l i n) else (l, i) := by
  obtain ⟨f, hf⟩ : ∃ f, n - i = f + 1 := ⟨n - i - 1, by omega⟩
  have hc := childL_cases lt d l i n
  rw [hf, downL, decide_eq_true h]
  generalize childL lt d l i n = c at *
  cases lt (l.getD c d) (l.getD i d) with
  | false => rfl
  | true =>
    simp only [cond_true]
    rw [downL_fuel lt d n f _ c (by omega)]

theorem tail129 {n : Nat} {i m : Int} {L : List W} {R : List W × Nat} {k c : Nat} (hl : L.length = n) (hn : n ≤ 1000000) (hm : m.toNat ≤ n) (hok : ∀ w, w ∈ L → okW w) (he : downL ltW wz m.toNat (m.toNat - k) L k = R) (hk : 2 * k + 1 < m.toNat)
    (hc : childL ltW wz L k m.toNat = c) (hcm : c < m.toNat) (hkc : k < c) :
    (n = L.length ∧ ((0 ≤ (c : Int) ∧ (c : Int) < (n : Int)) ∧ 0 ≤ (k : Int) ∧ (k : Int) < (n : Int)) ∧ okW (L.getD c wz) ∧ okW (L.getD k wz)) ∧
    bif !ltW (L.getD c wz) (L.getD k wz) then decide (i < (k : Int)) = decide (i < (R.2 : Int)) ∧ L = R.1
    else (n = L.length ∧ (0 ≤ (k : Int) ∧ (k : Int) < (n : Int)) ∧ 0 ≤ (c : Int) ∧ (c : Int) < (n : Int)) ∧ ∃ y : Nat × List W, ((c : Int) = (y.1 : Int) ∧ swapL wz L k c = y.2) ∧
      (y.2.length = n ∧ y.1 ≤ 1000000 ∧ (∀ w, List.Mem w y.2 → okW w) ∧ downL ltW wz m.toNat (m.toNat - y.1) y.2 y.1 = R) ∧ m.toNat - y.1 < m.toNat - k := by
  have m1 := hok _ (getD_mem (d := wz) (show c < L.length by omega))
  have m2 := hok _ (getD_mem (d := wz) (show k < L.length by omega))
  refine ⟨⟨hl.symm, ⟨⟨by omega, by omega⟩, by omega, by omega⟩, m1, m2⟩, ?_⟩
  rw [downL_step ltW wz L hk, hc] at he
  cases hlt : ltW (L.getD c wz) (L.getD k wz) with
  | false =>
    rw [hlt] at he
    simp only [Bool.not_false, cond_true]
    rw [cond_false] at he
    rw [← he]; exact ⟨rfl, rfl⟩
  | true =>
    rw [hlt, cond_true] at he
    simp only [Bool.not_true, cond_false]
    exact ⟨⟨hl.symm, ⟨by omega, by omega⟩, by omega, by omega⟩, (c, swapL wz L k c), ⟨rfl, rfl⟩, ⟨by simp only [swapL_len]; exact hl, by simp only; omega, fun w hw => hok w ((swapL_perm wz (by omega) (by omega)).subset hw), he⟩, by simp only; omega⟩

end Go.SL.A

/- Functions do what they are held to do. -/
namespace Go.SL.A
open Go Go.SL Go.SL.S
end Go.SL.A

/- Pulses, found one by one: plain laws. -/
namespace Go.SL.S
open Go Go.SL

def bump (w : W) : W := (w.1, w.2.1, w.2.2.1 + 1, w.2.2.2)

def stepY (c y : List Int) (a : Nat) : List Int := y.set a (if c.getD a 0 < 0 then y.getD a 0 - 1 else y.getD a 0 + 1)

def stepF (c : List Int) (s : List W × List Int) : List W × List Int :=
  (fixL ltW wz (s.1.set 0 (bump (s.1.getD 0 wz))), stepY c s.2 (s.1.getD 0 wz).1.toNat)

def iterF (c : List Int) (s : List W × List Int) : Nat → List W × List Int
  | 0 => s
  | k + 1 => stepF c (iterF c s k)

def pushTo (c : List Int) (g : Int) : Nat → List W
  | 0 => []
  | k + 1 => pushL ltW wz (pushTo c g k) ((k : Int), absF (c.getD k 0), 0, g)

def findF (c : List Int) (g : Int) (k : Nat) : List Int := (iterF c (pushTo c g 4, [0, 0, 0, 0]) k).2

/-- The wants of coefficients and pulses. -/
def wsF (c y : List Int) (g : Int) : List W := [(0, absF (c.getD 0 0), absF (y.getD 0 0), g), (1, absF (c.getD 1 0), absF (y.getD 1 0), g), (2, absF (c.getD 2 0), absF (y.getD 2 0), g), (3, absF (c.getD 3 0), absF (y.getD 3 0), g)]

/-- Pulses have their coefficients' signs. -/
def sgn (c y : Int) : Prop := if c < 0 then y ≤ 0 else 0 ≤ y

def lam (s n g q : Int) : Prop := fallF s n g ≤ q ∧ (1 ≤ n → q ≤ fallF s (n - 1) g)

structure FI (c : List Int) (g : Int) (k : Nat) (s : List W × List Int) : Prop where
  perm : s.1.Perm (wsF c s.2 g)
  hp : Hp ltW wz s.1 4
  len : s.2.length = 4
  sg : ∀ i, i < 4 → sgn (c.getD i 0) (s.2.getD i 0)
  sum : absF (s.2.getD 0 0) + absF (s.2.getD 1 0) + absF (s.2.getD 2 0) + absF (s.2.getD 3 0) = k
  lm : ∃ q, ∀ i, i < 4 → lam (absF (c.getD i 0)) (absF (s.2.getD i 0)) g q

theorem len4 {α : Type} {l : List α} (h : l.length = 4) : ∃ a b c d, l = [a, b, c, d] := by
  match l, h with
  | [a, b, c, d], _ => exact ⟨a, b, c, d, rfl⟩

theorem fall_anti (s n g : Int) (hg : 0 ≤ g) : fallF s (n + 1) g ≤ fallF s n g := by
  unfold fallF absF
  have e1 : (n + 1) * g = n * g + g := by rw [Int.add_mul, Int.one_mul]
  have e2 : (n + 1 + 1) * g = n * g + g + g := by rw [Int.add_mul, Int.add_mul, Int.one_mul]
  rw [e1, e2]
  generalize n * g = m
  omega

theorem FI.at0 {c : List Int} {g : Int} {k : Nat} {s : List W × List Int} (h : FI c g k s) : ∃ i, i < 4 ∧ s.1.getD 0 wz = (((i : Nat) : Int), absF (c.getD i 0), absF (s.2.getD i 0), g) ∧
    (s.1.set 0 (bump (s.1.getD 0 wz))).Perm ((wsF c s.2 g).set i (bump (s.1.getD 0 wz))) ∧ ∀ j, j < 4 → fallF (absF (c.getD j 0)) (absF (s.2.getD j 0)) g ≤ fallF (absF (c.getD i 0)) (absF (s.2.getD i 0)) g := by
  have hl : s.1.length = 4 := by rw [h.perm.length_eq]; rfl
  have hf := h.hp.first ltW_ord
  have hp := h.perm
  obtain ⟨w0, w1, w2, w3, e⟩ := len4 hl
  rw [e] at hp hf ⊢
  have hmem : w0 ∈ wsF c s.2 g := hp.subset (by simp)
  have e0 : [w0, w1, w2, w3].getD 0 wz = w0 := rfl
  rw [e0] at hf ⊢
  have hmin : ∀ w ∈ wsF c s.2 g, fallW w ≤ fallW w0 := by
    intro w hw
    have hw := hp.symm.subset hw
    simp only [List.mem_cons, List.not_mem_nil, or_false] at hw
    rcases hw with rfl | rfl | rfl | rfl
    · omega
    · exact ltW_fall (hf 1 (by omega))
    · exact ltW_fall (hf 2 (by omega))
    · exact ltW_fall (hf 3 (by omega))
  have hj : ∀ j, j < 4 → fallF (absF (c.getD j 0)) (absF (s.2.getD j 0)) g ≤ fallW w0 := by
    intro j hj
    have : j = 0 ∨ j = 1 ∨ j = 2 ∨ j = 3 := by omega
    rcases this with rfl | rfl | rfl | rfl
    · exact hmin (0, absF (c.getD 0 0), absF (s.2.getD 0 0), g) (by simp [wsF])
    · exact hmin (1, absF (c.getD 1 0), absF (s.2.getD 1 0), g) (by simp [wsF])
    · exact hmin (2, absF (c.getD 2 0), absF (s.2.getD 2 0), g) (by simp [wsF])
    · exact hmin (3, absF (c.getD 3 0), absF (s.2.getD 3 0), g) (by simp [wsF])
  simp only [wsF, List.mem_cons, List.not_mem_nil, or_false] at hmem
  have set0 : ∀ x : W, [w0, w1, w2, w3].set 0 x = [x, w1, w2, w3] := fun _ => rfl
  have hq : ∀ (A B : List W) (x y : W), wsF c s.2 g = A ++ [x] ++ B → w0 = x → [y, w1, w2, w3].Perm (A ++ [y] ++ B) := by
    intro A B x y he hx
    rw [he, ← hx] at hp
    have h1 : (A ++ [w0] ++ B).Perm (w0 :: (A ++ B)) := by
      rw [List.append_assoc]; exact List.perm_middle
    have h2 : (A ++ [y] ++ B).Perm (y :: (A ++ B)) := by
      rw [List.append_assoc]; exact List.perm_middle
    exact (List.Perm.cons y (List.Perm.cons_inv (hp.trans h1))).trans h2.symm
  rcases hmem with e1 | e1 | e1 | e1
  · refine ⟨0, by omega, e1, ?_, fun j h => by have := hj j h; rw [e1] at this; exact this⟩
    rw [set0]; exact hq [] _ _ _ rfl e1
  · refine ⟨1, by omega, e1, ?_, fun j h => by have := hj j h; rw [e1] at this; exact this⟩
    rw [set0]; exact hq [_] _ _ _ rfl e1
  · refine ⟨2, by omega, e1, ?_, fun j h => by have := hj j h; rw [e1] at this; exact this⟩
    rw [set0]; exact hq [_, _] _ _ _ rfl e1
  · refine ⟨3, by omega, e1, ?_, fun j h => by have := hj j h; rw [e1] at this; exact this⟩
    rw [set0]; exact hq [_, _, _] _ _ _ rfl e1

theorem FI.step {c : List Int} {g : Int} (hg : 0 ≤ g) {k : Nat} {s : List W × List Int} (h : FI c g k s) : FI c g (k + 1) (stepF c s) := by
  obtain ⟨i, hi, e, hp, hm⟩ := h.at0
  have hl : s.1.length = 4 := by rw [h.perm.length_eq]; rfl
  have hlen := h.len
  have hsg := h.sg
  have hsum := h.sum
  obtain ⟨q, hq⟩ := h.lm
  have hh := fix_hp ltW_ord wz (l := s.1) (bump (s.1.getD 0 wz)) (by rw [hl]; exact h.hp)
  rw [hl] at hh
  have hat : (s.1.getD 0 wz).1.toNat = i := by rw [e]; simp
  have hstep : absF ((stepY c s.2 i).getD i 0) = absF (s.2.getD i 0) + 1 ∧ sgn (c.getD i 0) ((stepY c s.2 i).getD i 0) := by
    have hs := hsg i hi
    have : (stepY c s.2 i).getD i 0 = if c.getD i 0 < 0 then s.2.getD i 0 - 1 else s.2.getD i 0 + 1 := by
      simp [stepY, hlen, hi]
    rw [this]
    unfold sgn at hs ⊢
    unfold absF
    split at hs
    · rename_i hc; simp only [hc, if_true]; omega
    · rename_i hc; simp only [hc, if_false]; omega
  have hoth : ∀ j, j ≠ i → (stepY c s.2 i).getD j 0 = s.2.getD j 0 := by
    intro j hj
    simp only [stepY, List.getD_eq_getElem?_getD, List.getElem?_set]
    rw [if_neg (Ne.symm hj)]
  have hws : (wsF c s.2 g).set i (bump (s.1.getD 0 wz)) = wsF c (stepY c s.2 i) g := by
    rw [e]
    have : i = 0 ∨ i = 1 ∨ i = 2 ∨ i = 3 := by omega
    rcases this with rfl | rfl | rfl | rfl
    · simp only [wsF, bump, hstep.1, hoth 1 (by omega), hoth 2 (by omega), hoth 3 (by omega)]; rfl
    · simp only [wsF, bump, hstep.1, hoth 0 (by omega), hoth 2 (by omega), hoth 3 (by omega)]; rfl
    · simp only [wsF, bump, hstep.1, hoth 0 (by omega), hoth 1 (by omega), hoth 3 (by omega)]; rfl
    · simp only [wsF, bump, hstep.1, hoth 0 (by omega), hoth 1 (by omega), hoth 2 (by omega)]; rfl
  have e2 : stepF c s = (fixL ltW wz (s.1.set 0 (bump (s.1.getD 0 wz))), stepY c s.2 i) := by unfold stepF; rw [hat]
  rw [e2]
  refine ⟨?_, hh, by simp [stepY, hlen], fun j hj => ?_, ?_, fallF (absF (c.getD i 0)) (absF (s.2.getD i 0)) g, fun j hj => ?_⟩
  · rw [← hws]
    exact (downL_perm ltW wz _ _ _ 0 (Nat.le_refl _)).trans hp
  · by_cases ej : j = i
    · subst ej; exact hstep.2
    · simp only [hoth j ej]; exact hsg j hj
  · have : i = 0 ∨ i = 1 ∨ i = 2 ∨ i = 3 := by omega
    rcases this with rfl | rfl | rfl | rfl
    · simp only [hstep.1, hoth 1 (by omega), hoth 2 (by omega), hoth 3 (by omega)]; omega
    · simp only [hstep.1, hoth 0 (by omega), hoth 2 (by omega), hoth 3 (by omega)]; omega
    · simp only [hstep.1, hoth 0 (by omega), hoth 1 (by omega), hoth 3 (by omega)]; omega
    · simp only [hstep.1, hoth 0 (by omega), hoth 1 (by omega), hoth 2 (by omega)]; omega
  · by_cases ej : j = i
    · subst ej
      simp only [hstep.1]
      refine ⟨fall_anti _ _ _ hg, fun _ => ?_⟩
      rw [Int.add_sub_cancel]; exact Int.le_refl _
    · simp only [hoth j ej]
      exact ⟨hm j hj, fun h1 => Int.le_trans (hq i hi).1 ((hq j hj).2 h1)⟩

theorem push4 (c : List Int) (g : Int) : (pushTo c g 4).Perm (wsF c [0, 0, 0, 0] g) ∧ Hp ltW wz (pushTo c g 4) 4 ∧ (pushTo c g 4).length = 4 := by
  have len : ∀ k, (pushTo c g k).length = k := by
    intro k
    induction k with
    | zero => rfl
    | succ k ih => rw [pushTo, pushL_len, ih]
  have hpp : ∀ k, Hp ltW wz (pushTo c g k) k := by
    intro k
    induction k with
    | zero => intro j _ h; omega
    | succ k ih =>
      rw [pushTo]
      have := push_hp ltW_ord wz ((k : Int), absF (c.getD k 0), 0, g) (l := pushTo c g k) (by rw [len]; exact ih)
      rw [len] at this; exact this
  refine ⟨?_, hpp 4, len 4⟩
  have p : ∀ (k : Nat) (l : List W), (pushTo c g k).Perm l → (pushTo c g (k + 1)).Perm (l ++ [((k : Int), absF (c.getD k 0), 0, g)]) := fun k l h => (pushL_perm ltW wz _ _).trans (h.append_right _)
  exact p 3 _ (p 2 _ (p 1 _ (p 0 [] (List.Perm.refl _))))

theorem FI.init (c : List Int) (g : Int) : FI c g 0 (pushTo c g 4, [0, 0, 0, 0]) := by
  obtain ⟨h1, h2, h3⟩ := push4 c g
  have h0 : ∀ i, i < 4 → ([0, 0, 0, 0] : List Int).getD i 0 = 0 := by
    intro i hi
    have : i = 0 ∨ i = 1 ∨ i = 2 ∨ i = 3 := by omega
    rcases this with rfl | rfl | rfl | rfl <;> rfl
  refine ⟨h1, h2, rfl, fun i hi => ?_, rfl, max (max (fallF (absF (c.getD 0 0)) 0 g) (fallF (absF (c.getD 1 0)) 0 g)) (max (fallF (absF (c.getD 2 0)) 0 g) (fallF (absF (c.getD 3 0)) 0 g)), fun i hi => ?_⟩
  · simp only [h0 i hi, sgn]; split <;> omega
  · simp only [h0 i hi]
    have e0 : absF 0 = 0 := by decide
    rw [e0]
    refine ⟨?_, fun h => by omega⟩
    have : i = 0 ∨ i = 1 ∨ i = 2 ∨ i = 3 := by omega
    rcases this with rfl | rfl | rfl | rfl <;> omega

theorem FI.iter (c : List Int) {g : Int} (hg : 0 ≤ g) : ∀ k, FI c g k (iterF c (pushTo c g 4, [0, 0, 0, 0]) k)
  | 0 => FI.init c g
  | k + 1 => (FI.iter c hg k).step hg

theorem lam_line {s n g q : Int} (hg : 0 ≤ g) (_hn : 0 ≤ n) (h : lam s n g q) : ∀ m : Nat, absF (s - n * g) - q * ((m : Int) - n) ≤ absF (s - m * g) := by
  have up : ∀ d : Nat, absF (s - n * g) - q * (d : Int) ≤ absF (s - (n + d) * g) ∧ fallF s (n + d) g ≤ q := by
    intro d
    induction d with
    | zero => simp; exact h.1
    | succ d ih =>
      have e : n + ((d + 1 : Nat) : Int) = n + d + 1 := by omega
      rw [e]
      have h2 := fall_anti s (n + d) g hg
      refine ⟨?_, by omega⟩
      have h3 := ih.2
      unfold fallF at h3
      have e4 : q * ((d + 1 : Nat) : Int) = q * (d : Int) + q := by
        rw [show ((d + 1 : Nat) : Int) = (d : Int) + 1 by omega, Int.mul_add, Int.mul_one]
      rw [e4]; omega
  have dn : ∀ d : Nat, (d : Int) ≤ n → absF (s - n * g) + q * (d : Int) ≤ absF (s - (n - d) * g) ∧ ((d : Int) + 1 ≤ n → q ≤ fallF s (n - d - 1) g) := by
    intro d
    induction d with
    | zero => intro _; simp; intro h1; exact h.2 (by omega)
    | succ d ih =>
      intro hd
      obtain ⟨i1, i2⟩ := ih (by omega)
      have h3 := i2 (by omega)
      have e : n - ((d + 1 : Nat) : Int) = n - d - 1 := by omega
      rw [e]
      refine ⟨?_, fun h4 => ?_⟩
      · unfold fallF at h3
        have e4 : q * ((d + 1 : Nat) : Int) = q * (d : Int) + q := by
          rw [show ((d + 1 : Nat) : Int) = (d : Int) + 1 by omega, Int.mul_add, Int.mul_one]
        rw [Int.sub_add_cancel] at h3
        rw [e4]; omega
      · have := fall_anti s (n - d - 1 - 1) g hg
        rw [Int.sub_add_cancel] at this
        omega
  intro m
  rcases Int.le_total n m with h1 | h1
  · obtain ⟨d, hd⟩ := Int.eq_ofNat_of_zero_le (show 0 ≤ (m : Int) - n by omega)
    have := (up d).1
    rw [hd, show (m : Int) = n + d by omega]; exact this
  · obtain ⟨d, hd⟩ := Int.eq_ofNat_of_zero_le (show 0 ≤ n - (m : Int) by omega)
    have := (dn d (by omega)).1
    rw [show (m : Int) - n = -(d : Int) by omega, show (m : Int) = n - d by omega, Int.mul_neg]; omega

theorem abs_far {c z g : Int} (hg : 0 ≤ g) : absF (absF c - absF z * g) ≤ absF (c - z * g) := by
  have h1 : absF z * g = z * g ∨ absF z * g = -(z * g) := by
    unfold absF
    rcases Int.le_total 0 z with h | h
    · left; rw [show max z (-z) = z by omega]
    · right; rw [show max z (-z) = -z by omega, Int.neg_mul]
  have h2 : 0 ≤ absF z * g := Int.mul_nonneg (by unfold absF; omega) hg
  generalize absF z * g = a at *
  generalize z * g = b at *
  unfold absF; omega

theorem abs_near {c z g : Int} (_hg : 0 ≤ g) (h : sgn c z) : absF (c - z * g) = absF (absF c - absF z * g) := by
  unfold sgn at h
  split at h
  · have e : absF z = -z := by unfold absF; omega
    rw [e, Int.neg_mul]
    generalize z * g = b
    unfold absF; omega
  · have e : absF z = z := by unfold absF; omega
    rw [e]
    generalize z * g = b
    unfold absF; omega

/-- How far pulses are. -/
def farF (c y : List Int) (g : Int) : Int := absF (c.getD 0 0 - y.getD 0 0 * g) + absF (c.getD 1 0 - y.getD 1 0 * g) + absF (c.getD 2 0 - y.getD 2 0 * g) + absF (c.getD 3 0 - y.getD 3 0 * g)

def sumF (y : List Int) : Int := absF (y.getD 0 0) + absF (y.getD 1 0) + absF (y.getD 2 0) + absF (y.getD 3 0)

theorem find_best (c : List Int) {g : Int} (hg : 0 ≤ g) (k : Nat) (z : List Int) (hz : sumF z = k) : farF c (findF c g k) g ≤ farF c z g := by
  have h := FI.iter c hg k
  obtain ⟨q, hq⟩ := h.lm
  have hs := h.sum
  have hsg := h.sg
  show farF c (iterF c (pushTo c g 4, [0, 0, 0, 0]) k).2 g ≤ _
  generalize (iterF c (pushTo c g 4, [0, 0, 0, 0]) k).2 = y at *
  have one : ∀ i, i < 4 → absF (c.getD i 0 - y.getD i 0 * g) - q * (absF (z.getD i 0) - absF (y.getD i 0)) ≤ absF (c.getD i 0 - z.getD i 0 * g) := by
    intro i hi
    have h0 : 0 ≤ absF (z.getD i 0) := by unfold absF; omega
    obtain ⟨m, hm⟩ := Int.eq_ofNat_of_zero_le h0
    have h1 := lam_line hg (by unfold absF; omega) (hq i hi) m
    rw [← hm] at h1
    have h2 := abs_far (c := c.getD i 0) (z := z.getD i 0) hg
    have h3 := abs_near hg (hsg i hi)
    rw [h3]; omega
  have o0 := one 0 (by omega)
  have o1 := one 1 (by omega)
  have o2 := one 2 (by omega)
  have o3 := one 3 (by omega)
  unfold farF sumF at *
  rw [Int.mul_sub] at o0 o1 o2 o3
  have e : q * (absF (z.getD 0 0)) + q * (absF (z.getD 1 0)) + q * (absF (z.getD 2 0)) + q * (absF (z.getD 3 0)) = q * (absF (y.getD 0 0)) + q * (absF (y.getD 1 0)) + q * (absF (y.getD 2 0)) + q * (absF (y.getD 3 0)) := by
    rw [← Int.mul_add, ← Int.mul_add, ← Int.mul_add, ← Int.mul_add, ← Int.mul_add, ← Int.mul_add, hz, hs]
  omega

end Go.SL.S

/- Pulse: plain functions. -/
namespace Go.SL.S
open Go Go.SL
def fewF (y : List Int) : Bool := y.all fun x => decide (-12 ≤ x ∧ x ≤ 12)
def mayF14 (y : List Int) (s : Int) : Bool := fewF y && decide (0 < gainF s)
def coefF (y : List Int) (s : Int) : List Int := if mayF14 y s then y.map (· * gainF s) else [0, 0, 0, 0]
def farTo (c x : List Int) : Nat → Int
  | 0 => 0
  | i + 1 => farTo c x i + absF (c.getD i 0 - x.getD i 0)
def distF (c y : List Int) (s : Int) : Int := if mayF14 y s && heldF c then farTo c (coefF y s) 4 else -1
def findE (c : List Int) (s k : Int) : Int := if gainF s = 0 ∨ k < 0 ∨ 12 < k then 1 else if heldF c then 0 else 7
def findV (c : List Int) (s k : Int) : List Int := if findE c s k = 0 then findF c (gainF s) k.toNat else [0, 0, 0, 0]
def heldL (c : List Int) : List Int := c.map fun x => x.tmod 1048577
end Go.SL.S

/- Functions and what they are held to do: bound to their code. -/
namespace Go.SL.A
open Go Go.SL Go.SL.S
set_option maxRecDepth 100000
end Go.SL.A

/- Pulse: coefficients, distances, what is found. -/
namespace Go.SL.A
open Go Go.SL Go.SL.S

theorem hw98 {y : List Int} {s : Int} (hw : Go.SL.allP (List.flatMap (fun a : AV => a.t.wf a.x) [⟨.arr 4 (.int .i64), y⟩, ⟨.int .i64, s⟩] ++ List.flatMap Blk.wf [])) : y.length = 4 := by
  simp only [List.flatMap_cons, List.flatMap_nil, Ty.wf, List.append_nil, List.cons_append, List.nil_append, Go.SL.allP] at hw
  exact hw.1
theorem hw54 {c y : List Int} {s : Int} (hw : Go.SL.allP (List.flatMap (fun a : AV => a.t.wf a.x) [⟨.arr 4 (.int .i64), c⟩, ⟨.arr 4 (.int .i64), y⟩, ⟨.int .i64, s⟩] ++ List.flatMap Blk.wf [])) : c.length = 4 ∧ y.length = 4 := by
  simp only [List.flatMap_cons, List.flatMap_nil, Ty.wf, List.append_nil, List.cons_append, List.nil_append, Go.SL.allP] at hw
  exact ⟨hw.1, hw.2.2.1⟩
theorem hw52 {c : List Int} {s k : Int} (hw : Go.SL.allP (List.flatMap (fun a : AV => a.t.wf a.x) [⟨.arr 4 (.int .i64), c⟩, ⟨.int .i64, s⟩, ⟨.int .i64, k⟩] ++ List.flatMap Blk.wf [])) : c.length = 4 := by
  simp only [List.flatMap_cons, List.flatMap_nil, Ty.wf, List.append_nil, List.cons_append, List.nil_append, Go.SL.allP] at hw
  exact hw.1

theorem gain_fits (s : Int) : 0 ≤ gainF s ∧ gainF s ≤ 32768 := by
  unfold gainF
  split
  · omega
  · rcases gain_cases (s := s) (by omega) with rfl | rfl | rfl | rfl | rfl | rfl | rfl | rfl | rfl | rfl | rfl | rfl | rfl | rfl | rfl | rfl <;> decide

theorem gain_pos {s : Int} (h : 0 ≤ s ∧ s ≤ 15) : 0 < gainF s := by
  rcases gain_cases h with rfl | rfl | rfl | rfl | rfl | rfl | rfl | rfl | rfl | rfl | rfl | rfl | rfl | rfl | rfl | rfl <;> decide

theorem gain_zero {s : Int} (h : gainF s = 0) : ¬ (0 ≤ s ∧ s ≤ 15) := fun h' => by have := gain_pos h'; omega

theorem fewF_step {c : List Int} {i : Nat} (hi : i < c.length) : fewF (c.take (i + 1)) = (fewF (c.take i) && decide (-12 ≤ c.getD i 0 ∧ c.getD i 0 ≤ 12)) := by
  unfold fewF; rw [take_snoc' 0 hi, List.all_append]; simp

theorem fewF_not {c : List Int} {i : Nat} (hi : i < c.length) (h : ¬ (-12 ≤ c.getD i 0 ∧ c.getD i 0 ≤ 12)) : fewF c = false := by
  unfold fewF
  rw [List.all_eq_false]
  exact ⟨c.getD i 0, getD_mem hi, by simpa using h⟩

theorem fewF_at {c : List Int} (h : fewF c = true) (i : Nat) : -12 ≤ c.getD i 0 ∧ c.getD i 0 ≤ 12 := by
  by_cases hi : i < c.length
  · unfold fewF at h
    rw [List.all_eq_true] at h
    simpa using h _ (getD_mem (d := 0) hi)
  · rw [List.getD_eq_getElem?_getD, List.getElem?_eq_none (by omega)]; simp

theorem heldF_at {c : List Int} (h : heldF c = true) (i : Nat) : -1048576 ≤ c.getD i 0 ∧ c.getD i 0 ≤ 1048576 := by
  by_cases hi : i < c.length
  · unfold heldF at h
    rw [List.all_eq_true] at h
    simpa using h _ (getD_mem (d := 0) hi)
  · rw [List.getD_eq_getElem?_getD, List.getElem?_eq_none (by omega)]; simp


theorem mul_fits {x g : Int} (h1 : -12 ≤ x ∧ x ≤ 12) (h2 : 0 ≤ g ∧ g ≤ 32768) : -393216 ≤ x * g ∧ x * g ≤ 393216 := by
  have a : x * g ≤ 12 * g := Int.mul_le_mul_of_nonneg_right h1.2 h2.1
  have b : -12 * g ≤ x * g := Int.mul_le_mul_of_nonneg_right h1.1 h2.1
  omega

theorem coefF_may {y : List Int} {s : Int} (h : mayF14 y s = true) : coefF y s = y.map (· * gainF s) := by unfold coefF; rw [if_pos h]

theorem getD_map0 (y : List Int) (g : Int) (i : Nat) : (y.map (· * g)).getD i 0 = y.getD i 0 * g := by
  simp only [List.getD_eq_getElem?_getD, List.getElem?_map]
  cases y[i]? with
  | none => simp
  | some x => rfl

theorem mayF14_few {y : List Int} {s : Int} (h : mayF14 y s = true) : fewF y = true := by
  unfold mayF14 at h; rw [Bool.and_eq_true] at h; exact h.1

theorem coefF_at (y : List Int) (s : Int) (i : Nat) : -393216 ≤ (coefF y s).getD i 0 ∧ (coefF y s).getD i 0 ≤ 393216 := by
  unfold coefF
  split
  · rename_i h
    rw [getD_map0]
    exact mul_fits (fewF_at (mayF14_few h) i) (gain_fits s)
  · match i with
    | 0 => decide
    | 1 => decide
    | 2 => decide
    | 3 => decide
    | i + 4 => simp

theorem farTo_fits {c x : List Int} (hc : ∀ i, -1048576 ≤ c.getD i 0 ∧ c.getD i 0 ≤ 1048576) (hx : ∀ i, -393216 ≤ x.getD i 0 ∧ x.getD i 0 ≤ 393216) : ∀ i, 0 ≤ farTo c x i ∧ farTo c x i ≤ (i : Int) * 2000000
  | 0 => by simp [farTo]
  | i + 1 => by
    have h := farTo_fits hc hx i
    have h1 := hc i
    have h2 := hx i
    have h3 := absF_le (c.getD i 0 - x.getD i 0)
    rw [farTo]; omega

theorem gain_step {i : Nat} (h : i < 15) : gainF ((i + 1 : Nat) : Int) = 2 * gainF (i : Int) := by
  unfold gainF
  rw [if_neg (by omega), if_neg (by omega)]
  simp only [Int.toNat_natCast]
  rw [Int.pow_succ]; omega

theorem szR_abs (x : Int) (h : -9223372036854775807 ≤ x ∧ x ≤ 9223372036854775807) : szR x = absF x := by
  unfold szR absF
  split
  · first | (rw [w64 (by omega) (by omega)]; omega) | omega
  · omega

theorem FI.ok {c : List Int} {g : Int} {k : Nat} {s : List W × List Int} (h : FI c g k s) (hc : heldF c = true) (hg : 0 ≤ g ∧ g ≤ 32768) (hk : k ≤ 99) : ∀ w ∈ s.1, okW w ∧ w.2.2.1 ≤ k := by
  intro w hw
  have hw := h.perm.subset hw
  have hs := h.sum
  have n0 := absF_le (s.2.getD 0 0)
  have n1 := absF_le (s.2.getD 1 0)
  have n2 := absF_le (s.2.getD 2 0)
  have n3 := absF_le (s.2.getD 3 0)
  have c0 := heldF_at hc 0
  have c1 := heldF_at hc 1
  have c2 := heldF_at hc 2
  have c3 := heldF_at hc 3
  have a0 := absF_le (c.getD 0 0)
  have a1 := absF_le (c.getD 1 0)
  have a2 := absF_le (c.getD 2 0)
  have a3 := absF_le (c.getD 3 0)
  simp only [wsF, List.mem_cons, List.not_mem_nil, or_false] at hw
  unfold okW
  rcases hw with rfl | rfl | rfl | rfl <;> simp only <;> omega

theorem pushTo_len (c : List Int) (g : Int) : ∀ k, (pushTo c g k).length = k
  | 0 => rfl
  | k + 1 => by rw [pushTo, pushL_len, pushTo_len c g k]

theorem pushTo_mem (c : List Int) (g : Int) : ∀ k, ∀ w ∈ pushTo c g k, ∃ i : Nat, w = ((i : Int), absF (c.getD i 0), 0, g)
  | 0, w, h => by cases h
  | k + 1, w, h => by
    rw [pushTo] at h
    rcases List.mem_append.1 ((pushL_perm ltW wz _ _).subset h) with h | h
    · exact pushTo_mem c g k w h
    · exact ⟨k, List.mem_singleton.1 h⟩

end Go.SL.A

/- Functions do what they are held to do. -/
namespace Go.SL.A
open Go Go.SL Go.SL.S
end Go.SL.A

/- Queues: plain functions. -/
namespace Go.SL.S
open Go Go.SL
def qz : Int × Int := (0, 0)
def ltQ (a b : Int × Int) : Bool := decide (b.2 < a.2) || (decide (a.2 = b.2) && decide (a.1 < b.1))
def popL {α : Type} (lt : α → α → Bool) (d : α) (l : List α) : List α := ((downL lt d (l.length - 1) (l.length - 1) (swapL d l 0 (l.length - 1)) 0).1).take (l.length - 1)
theorem ltQ_ord : Ord ltQ where
  asym := fun a b h => by
    simp only [ltQ, Bool.or_eq_true, Bool.and_eq_true, decide_eq_true_eq, Bool.or_eq_false_iff, Bool.and_eq_false_iff, decide_eq_false_iff_not] at h ⊢
    omega
  tr := fun a b c h1 h2 => by
    simp only [ltQ, Bool.or_eq_false_iff, Bool.and_eq_false_iff, decide_eq_false_iff_not] at h1 h2 ⊢
    omega
end Go.SL.S
namespace Go.SL.A
open Go Go.SL
def meth18 : MethT := fun T nm => match Nat.beq T 103 with
  | true => match decide (nm = "Len") with
    | true => some (59, none)
    | false => match decide (nm = "Less") with
      | true => some (97, none)
      | false => match decide (nm = "Swap") with
        | true => some (100, none)
        | false => match decide (nm = "Push") with
          | true => some (99, none)
          | false => match decide (nm = "Pop") with
            | true => some (98, none)
            | false => none
  | false => meth14 T nm
theorem methOk18 : Meth Go.Proofs.Try.prog meth18 := by
  intro T nm f o h
  unfold meth18 at h
  split at h
  · rename_i hT
    obtain rfl : T = 103 := Nat.eq_of_beq_eq_true hT
    repeat' split at h
    all_goals cases h
    all_goals (rename_i hn; simp only [decide_eq_true_eq] at hn; subst hn)
    all_goals exact meth_ptr' (U := 107) (by kernel_rfl) (by kernel_rfl)
  · exact methOk T nm f o h
end Go.SL.A

/- Functions and what they are held to do: bound to their code. -/
namespace Go.SL.A
open Go Go.SL Go.SL.S
set_option maxRecDepth 100000
noncomputable def C101 : Ctx := ⟨Go.Proofs.Try.prog, D, G49v, meth18, fun _ => []⟩
def ann101 (_a _b _c _d : Int) : Nat → St → Option Ann := fun _ _ => none
def out101 (a b c d : Int) : COut := ⟨[], .v .bool (ltQ (a, b) (c, d)), [], []⟩
def sp101 : Spec := fun args ins => match args, ins with
  | [⟨.cons (.int .i64) (.last (.int .i64)), (a, b)⟩, ⟨.cons (.int .i64) (.last (.int .i64)), (c, d)⟩], [] => some (out101 a b c d)
  | _, _ => none
def G101 := addG G49v 57 sp101
def P101 (a b c d : Int) : Prop :=
  ∀ (b_1 : Bool), decide (d < b) = b_1 → ∀ (b_2 : Bool), decide (b = d) = b_2 → (((!b_1) = true → (!b_1) = true) ∧ ((!b_1) = true → (!b_1) = true) ∧ ((!b_1) = true → (!b_1) = true ∧ (!b_1) = true) ∧ ((!b_1 && !b_1 && b_2) =
  true → (!b_1 && !b_1 && b_2) = true) ∧ ((!b_1 && !b_1 && b_2) = true → (!b_1 && !b_1 && b_2) = true) ∧ ((!b_1 && !b_1 && b_2) = true → (!b_1 && !b_1 && b_2) = true ∧ (!b_1 && !b_1 && b_2) = true) ∧ ((!b_1) = true → (!b_1
  && !b_1) = true ∧ (b_2 = true → (!b_1 && !b_1 && b_2) = true)) ∧ (b_1 = false → (!b_1) = true)) ∧ (bif b_1 then true else bif b_2 then decide (a < c) else false) = ltQ (a, b) (c, d)
theorem vc101 (a b c d : Int) : P101 a b c d = vcFun C101 (ann101 a b c d) Go.Proofs.Try.f57 [⟨.cons (.int .i64) (.last (.int .i64)), (a, b)⟩, ⟨.cons (.int .i64) (.last (.int .i64)), (c, d)⟩] [] (out101 a b c d) := by kernel_rfl

noncomputable def C102 : Ctx := ⟨Go.Proofs.Try.prog, D, G101, meth18, fun _ => []⟩
def ann102 (_n : Nat) (_l : List (Int × Int)) : Nat → St → Option Ann := fun _ _ => none
def out102 (n : Nat) (_l : List (Int × Int)) : COut := ⟨[], .v (.int .i64) (n : Int), [], []⟩
def sp102 : Spec := fun args ins => match args, ins with
  | [⟨.ref .ptr, .ptr 0 (.cons (.ref .slice) (.last (.ref .func))) [0]⟩], [⟨false, true, (.cons (.ref .slice) (.last (.ref .func))), [(.slice 1 (.cons (.int .i64) (.last (.int .i64))) [] 0 n, .func (.func 57) [] [])]⟩, ⟨false, false, (.cons (.int .i64) (.last (.int .i64))), l⟩] => some (out102 n l)
  | _, _ => none
def G102 := addG G101 59 sp102
def P102 (n : Nat) (l : List (Int × Int)) : Prop :=
  (↑n : Int) = (↑n : Int) ∧ (0 : Nat) = (0 : Nat) ∧ n = n ∧ false = false ∧ l = l ∧ false = false
theorem vc102 (n : Nat) (l : List (Int × Int)) : P102 n l = vcFun C102 (ann102 n l) Go.Proofs.Try.f59 [⟨.ref .ptr, .ptr 0 (.cons (.ref .slice) (.last (.ref .func))) [0]⟩] [⟨false, true, (.cons (.ref .slice) (.last (.ref .func))), [(.slice 1 (.cons (.int .i64) (.last (.int .i64))) [] 0 n, .func (.func 57) [] [])]⟩, ⟨false, false, (.cons (.int .i64) (.last (.int .i64))), l⟩] (out102 n l) := by kernel_rfl

noncomputable def C188 : Ctx := ⟨Go.Proofs.Try.prog, D, G102, meth18, fun _ => []⟩
def ann188 (_n : Nat) (_i _j : Int) (_l : List (Int × Int)) : Nat → St → Option Ann := fun _ _ => none
def out188 (n : Nat) (i j : Int) (l : List (Int × Int)) : COut := ⟨[n = l.length, (0 ≤ i ∧ i < n) ∧ 0 ≤ j ∧ j < n], .v .bool (ltQ (l.getD i.toNat qz) (l.getD j.toNat qz)), [], []⟩
def sp188 : Spec := fun args ins => match args, ins with
  | [⟨.ref .ptr, .ptr 0 (.cons (.ref .slice) (.last (.ref .func))) [0]⟩, ⟨.int .i64, i⟩, ⟨.int .i64, j⟩], [⟨false, true, (.cons (.ref .slice) (.last (.ref .func))), [(.slice 1 (.cons (.int .i64) (.last (.int .i64))) [] 0 n, .func (.func 57) [] [])]⟩, ⟨false, false, (.cons (.int .i64) (.last (.int .i64))), l⟩] => some (out188 n i j l)
  | _, _ => none
def G188 := addG G102 97 sp188
def P188 (n : Nat) (i j : Int) (l : List (Int × Int)) : Prop :=
  (((0 : Int) ≤ i ∧ i < (↑n : Int)) ∧ (0 : Nat) + Int.toNat i < List.length l ∧ ((0 : Int) ≤ j ∧ j < (↑n : Int)) ∧ (0 : Nat) + Int.toNat j < List.length l) ∧ ltQ (Prod.fst (List.getD l ((0 : Nat) + Int.toNat i) ((0 : Int),
  (0 : Int))), Prod.snd (List.getD l ((0 : Nat) + Int.toNat i) ((0 : Int), (0 : Int)))) (Prod.fst (List.getD l ((0 : Nat) + Int.toNat j) ((0 : Int), (0 : Int))), Prod.snd (List.getD l ((0 : Nat) + Int.toNat j) ((0 : Int),
  (0 : Int)))) = ltQ (List.getD l (Int.toNat i) qz) (List.getD l (Int.toNat j) qz) ∧ (0 : Nat) = (0 : Nat) ∧ n = n ∧ false = false ∧ l = l ∧ false = false
theorem vc188 (n : Nat) (i j : Int) (l : List (Int × Int)) : P188 n i j l = vcFun C188 (ann188 n i j l) Go.Proofs.Try.f97 [⟨.ref .ptr, .ptr 0 (.cons (.ref .slice) (.last (.ref .func))) [0]⟩, ⟨.int .i64, i⟩, ⟨.int .i64, j⟩] [⟨false, true, (.cons (.ref .slice) (.last (.ref .func))), [(.slice 1 (.cons (.int .i64) (.last (.int .i64))) [] 0 n, .func (.func 57) [] [])]⟩, ⟨false, false, (.cons (.int .i64) (.last (.int .i64))), l⟩] (out188 n i j l) := by kernel_rfl

noncomputable def C191 : Ctx := ⟨Go.Proofs.Try.prog, D, G188, meth18, fun _ => []⟩
def ann191 (_n : Nat) (_i _j : Int) (_l : List (Int × Int)) : Nat → St → Option Ann := fun _ _ => none
def out191 (n : Nat) (i j : Int) (l : List (Int × Int)) : COut := ⟨[n = l.length, (0 ≤ i ∧ i < n) ∧ 0 ≤ j ∧ j < n], .tup [], [(1, some ⟨false, false, (.cons (.int .i64) (.last (.int .i64))), swapL qz l i.toNat j.toNat⟩)], []⟩
def sp191 : Spec := fun args ins => match args, ins with
  | [⟨.ref .ptr, .ptr 0 (.cons (.ref .slice) (.last (.ref .func))) [0]⟩, ⟨.int .i64, i⟩, ⟨.int .i64, j⟩], [⟨false, true, (.cons (.ref .slice) (.last (.ref .func))), [(.slice 1 (.cons (.int .i64) (.last (.int .i64))) [] 0 n, .func (.func 57) [] [])]⟩, ⟨false, false, (.cons (.int .i64) (.last (.int .i64))), l⟩] => some (out191 n i j l)
  | _, _ => none
def G191 := addG G188 100 sp191
def P191 (n : Nat) (i j : Int) (l : List (Int × Int)) : Prop :=
  (((0 : Int) ≤ j ∧ j < (↑n : Int)) ∧ (0 : Nat) + Int.toNat j < List.length l ∧ ((0 : Int) ≤ i ∧ i < (↑n : Int)) ∧ (0 : Nat) + Int.toNat i < List.length l ∧ ((0 : Int) ≤ i ∧ i < (↑n : Int)) ∧ (0 : Nat) + Int.toNat i <
  List.length l ∧ ((0 : Int) ≤ j ∧ j < (↑n : Int)) ∧ (0 : Nat) + Int.toNat j < List.length (List.set l ((0 : Nat) + Int.toNat i) (List.getD l ((0 : Nat) + Int.toNat j) ((0 : Int), (0 : Int))))) ∧ (0 : Nat) = (0 : Nat) ∧ n =
  n ∧ false = false ∧ List.set (List.set l ((0 : Nat) + Int.toNat i) (List.getD l ((0 : Nat) + Int.toNat j) ((0 : Int), (0 : Int)))) ((0 : Nat) + Int.toNat j) (List.getD l ((0 : Nat) + Int.toNat i) ((0 : Int), (0 : Int))) =
  swapL qz l (Int.toNat i) (Int.toNat j) ∧ false = false
theorem vc191 (n : Nat) (i j : Int) (l : List (Int × Int)) : P191 n i j l = vcFun C191 (ann191 n i j l) Go.Proofs.Try.f100 [⟨.ref .ptr, .ptr 0 (.cons (.ref .slice) (.last (.ref .func))) [0]⟩, ⟨.int .i64, i⟩, ⟨.int .i64, j⟩] [⟨false, true, (.cons (.ref .slice) (.last (.ref .func))), [(.slice 1 (.cons (.int .i64) (.last (.int .i64))) [] 0 n, .func (.func 57) [] [])]⟩, ⟨false, false, (.cons (.int .i64) (.last (.int .i64))), l⟩] (out191 n i j l) := by kernel_rfl

noncomputable def C190 : Ctx := ⟨Go.Proofs.Try.prog, D, G191, meth18, fun _ => []⟩
def ann190 (_n : Nat) (_l : List (Int × Int)) (_a _b : Int) : Nat → St → Option Ann := fun _ _ => none
def out190 (n : Nat) (l : List (Int × Int)) (a b : Int) : COut := ⟨[n = l.length ∧ n ≤ 1000000], .tup [], [(0, some ⟨false, true, (.cons (.ref .slice) (.last (.ref .func))), [(.slice 2 (.cons (.int .i64) (.last (.int .i64))) [] 0 (n + 1), .func (.func 57) [] [])]⟩), (1, none)], [⟨false, false, (.cons (.int .i64) (.last (.int .i64))), l ++ [(a, b)]⟩]⟩
def sp190 : Spec := fun args ins => match args, ins with
  | [⟨.ref .ptr, .ptr 0 (.cons (.ref .slice) (.last (.ref .func))) [0]⟩, ⟨.ref .iface, .iface 110 (.agg [.int .i64 a, .int .i64 b])⟩], [⟨false, true, (.cons (.ref .slice) (.last (.ref .func))), [(.slice 1 (.cons (.int .i64) (.last (.int .i64))) [] 0 n, .func (.func 57) [] [])]⟩, ⟨false, false, (.cons (.int .i64) (.last (.int .i64))), l⟩] => some (out190 n l a b)
  | _, _ => none
def G190 := addG G191 99 sp190
def P190 (n : Nat) (l : List (Int × Int)) (a b : Int) : Prop :=
  ((1 : Nat) ≤ (1 : Nat) ∧ (0 : Nat) + n = List.length l ∧ (n + List.length (seg ((a, b) :: List.replicate (nat_lit 0) ((0 : Int), (0 : Int))) (0 : Nat) (1 : Nat))) * (16 : Nat) ≤ (70368744177664 : Nat)) ∧ (0 : Nat) = (0 :
  Nat) ∧ n + List.length (seg ((a, b) :: List.replicate (nat_lit 0) ((0 : Int), (0 : Int))) (0 : Nat) (1 : Nat)) = n + (1 : Nat) ∧ false = false ∧ List.append (List.drop (0 : Nat) l) (seg ((a, b) :: List.replicate (nat_lit
  0) ((0 : Int), (0 : Int))) (0 : Nat) (1 : Nat)) = l ++ [(a, b)] ∧ false = false
theorem vc190 (n : Nat) (l : List (Int × Int)) (a b : Int) : P190 n l a b = vcFun C190 (ann190 n l a b) Go.Proofs.Try.f99 [⟨.ref .ptr, .ptr 0 (.cons (.ref .slice) (.last (.ref .func))) [0]⟩, ⟨.ref .iface, .iface 110 (.agg [.int .i64 a, .int .i64 b])⟩] [⟨false, true, (.cons (.ref .slice) (.last (.ref .func))), [(.slice 1 (.cons (.int .i64) (.last (.int .i64))) [] 0 n, .func (.func 57) [] [])]⟩, ⟨false, false, (.cons (.int .i64) (.last (.int .i64))), l⟩] (out190 n l a b) := by kernel_rfl

noncomputable def C189 : Ctx := ⟨Go.Proofs.Try.prog, D, G190, meth18, fun _ => []⟩
def ann189 (_n : Nat) (_l : List (Int × Int)) : Nat → St → Option Ann := fun _ _ => none
def out189 (n : Nat) (l : List (Int × Int)) : COut := ⟨[n = l.length ∧ 0 < n ∧ n ≤ 1000000], .v (.ref .iface) (.iface 110 (.agg [.int .i64 (l.getD (n - 1) qz).1, .int .i64 (l.getD (n - 1) qz).2])), [(0, some ⟨false, true, (.cons (.ref .slice) (.last (.ref .func))), [(.slice 1 (.cons (.int .i64) (.last (.int .i64))) [] 0 (n - 1), .func (.func 57) [] [])]⟩), (1, some ⟨false, false, (.cons (.int .i64) (.last (.int .i64))), l.take (n - 1)⟩)], []⟩
def raw189 (n : Nat) (l : List (Int × Int)) : COut := ⟨[n = l.length ∧ 0 < n ∧ n ≤ 1000000], .v (.ref .iface) (.iface 110 (.agg [.int .i64 (l.getD (n - 1) qz).1, .int .i64 (l.getD (n - 1) qz).2])), [(0, some ⟨false, true, (.cons (.ref .slice) (.last (.ref .func))), [(.slice 1 (.cons (.int .i64) (.last (.int .i64))) [] 0 (n - 1), .func (.func 57) [] [])]⟩)], []⟩
def sp189 : Spec := fun args ins => match args, ins with
  | [⟨.ref .ptr, .ptr 0 (.cons (.ref .slice) (.last (.ref .func))) [0]⟩], [⟨false, true, (.cons (.ref .slice) (.last (.ref .func))), [(.slice 1 (.cons (.int .i64) (.last (.int .i64))) [] 0 n, .func (.func 57) [] [])]⟩, ⟨false, false, (.cons (.int .i64) (.last (.int .i64))), l⟩] => some (out189 n l)
  | _, _ => none
def G189 := addG G190 98 sp189
def P189 (n : Nat) (l : List (Int × Int)) : Prop :=
  (((0 : Int) ≤ IntKind.wrap IntKind.i64 ((↑n : Int) - (1 : Int)) ∧ IntKind.wrap IntKind.i64 ((↑n : Int) - (1 : Int)) < (↑n : Int)) ∧ (0 : Nat) + Int.toNat (IntKind.wrap IntKind.i64 ((↑n : Int) - (1 : Int))) < List.length
  l) ∧ ((0 : Int) ≤ IntKind.wrap IntKind.i64 ((↑n : Int) - (1 : Int)) ∧ IntKind.wrap IntKind.i64 ((↑n : Int) - (1 : Int)) ≤ (↑n : Int)) ∧ Ref.agg [Ref.int IntKind.i64 (Prod.fst (List.getD l ((0 : Nat) + Int.toNat
  (IntKind.wrap IntKind.i64 ((↑n : Int) - (1 : Int)))) ((0 : Int), (0 : Int)))), Ref.int IntKind.i64 (Prod.snd (List.getD l ((0 : Nat) + Int.toNat (IntKind.wrap IntKind.i64 ((↑n : Int) - (1 : Int)))) ((0 : Int), (0 :
  Int))))] = Ref.agg [Ref.int IntKind.i64 (Prod.fst (List.getD l (n - (1 : Nat)) qz)), Ref.int IntKind.i64 (Prod.snd (List.getD l (n - (1 : Nat)) qz))] ∧ (0 : Nat) = (0 : Nat) ∧ Int.toNat (IntKind.wrap IntKind.i64 ((↑n :
  Int) - (1 : Int))) - (0 : Nat) = n - (1 : Nat) ∧ false = false ∧ l = l ∧ false = false
theorem vc189 (n : Nat) (l : List (Int × Int)) : P189 n l = vcFun C189 (ann189 n l) Go.Proofs.Try.f98 [⟨.ref .ptr, .ptr 0 (.cons (.ref .slice) (.last (.ref .func))) [0]⟩] [⟨false, true, (.cons (.ref .slice) (.last (.ref .func))), [(.slice 1 (.cons (.int .i64) (.last (.int .i64))) [] 0 n, .func (.func 57) [] [])]⟩, ⟨false, false, (.cons (.int .i64) (.last (.int .i64))), l⟩] (raw189 n l) := by kernel_rfl

end Go.SL.A

/- Queues: their methods. -/
namespace Go.SL.A
open Go Go.SL Go.SL.S

theorem pure101 (a b c d : Int) : P101 a b c d := by
  unfold P101
  intro p hp q hq
  refine ⟨by clear hp hq; cases p <;> cases q <;> simp, ?_⟩
  unfold ltQ
  simp only [hp, hq]
  cases p <;> cases q <;> simp

theorem pure102 (n : Nat) (l : List (Int × Int)) : P102 n l := by unfold P102; simp

theorem pure188 (n : Nat) (i j : Int) (l : List (Int × Int)) (h1 : n = l.length) (h2 : (0 ≤ i ∧ i < n) ∧ 0 ≤ j ∧ j < n) : P188 n i j l := by
  subst h1
  obtain ⟨⟨a1, a2⟩, a3, a4⟩ := h2
  unfold P188
  simp only [Nat.zero_add, eq_self, and_true]
  exact ⟨⟨⟨a1, a2⟩, by omega, ⟨a3, a4⟩, by omega⟩, rfl⟩

theorem pure191 (n : Nat) (i j : Int) (l : List (Int × Int)) (h1 : n = l.length) (h2 : (0 ≤ i ∧ i < n) ∧ 0 ≤ j ∧ j < n) : P191 n i j l := by
  subst h1
  unfold P191 swapL
  simp only [Nat.zero_add, List.length_set, eq_self, true_and, and_true]
  exact ⟨⟨by omega, by omega, by omega, by omega, by omega, by omega, by omega, by omega⟩, rfl⟩

theorem pure190 (n : Nat) (l : List (Int × Int)) (a b : Int) (h : n = l.length ∧ n ≤ 1000000) : P190 n l a b := by
  unfold P190
  simp only [eq_self, true_and, and_true]
  refine ⟨⟨Nat.le_refl _, by omega, ?_⟩, rfl, rfl⟩
  show (n + 1) * 16 ≤ 70368744177664
  omega

theorem pure189 (n : Nat) (l : List (Int × Int)) (h : n = l.length ∧ 0 < n ∧ n ≤ 1000000) : P189 n l := by
  obtain ⟨h1, h2, h3⟩ := h
  unfold P189
  have w : IntKind.i64.wrap ((n : Int) - 1) = ((n - 1 : Nat) : Int) := by rw [w64 (by omega) (by omega)]; omega
  rw [w]
  simp only [Int.toNat_natCast, Nat.zero_add, eq_self, true_and, and_true]
  exact ⟨⟨⟨by omega, by omega⟩, by omega⟩, ⟨by omega, by omega⟩, rfl, rfl⟩
end Go.SL.A

/- Functions do what they are held to do. -/
namespace Go.SL.A
open Go Go.SL Go.SL.S
theorem snd101 : Sound Go.Proofs.Try.prog G101 := snd49v.add ⟨_, Go.Proofs.Try.func57, by kernel_rfl, by kernel_rfl⟩ (by
  intro args ins out h hp
  unfold sp101 at h
  split at h
  · rename_i a b c d
    cases h
    exact vcFun_ok (C := C101) good snd49v methOk18 mix Go.Proofs.Try.func57 (ann101 a b c d) (fun hw => by rw [← vc101 a b c d]; exact pure101 a b c d)
  · cases h)

theorem snd102 : Sound Go.Proofs.Try.prog G102 := snd101.add ⟨_, Go.Proofs.Try.func59, by kernel_rfl, by kernel_rfl⟩ (by
  intro args ins out h hp
  unfold sp102 at h
  split at h
  · rename_i n l
    cases h
    exact vcFun_ok (C := C102) good snd101 methOk18 mix Go.Proofs.Try.func59 (ann102 n l) (fun hw => by rw [← vc102 n l]; exact pure102 n l)
  · cases h)

theorem snd188 : Sound Go.Proofs.Try.prog G188 := snd102.add ⟨_, Go.Proofs.Try.func97, by kernel_rfl, by kernel_rfl⟩ (by
  intro args ins out h hp
  unfold sp188 at h
  split at h
  · rename_i i j n l
    cases h
    exact vcFun_ok (C := C188) good snd102 methOk18 mix Go.Proofs.Try.func97 (ann188 n i j l) (fun hw => by rw [← vc188 n i j l]; exact pure188 n i j l hp.1 hp.2)
  · cases h)

theorem snd191 : Sound Go.Proofs.Try.prog G191 := snd188.add ⟨_, Go.Proofs.Try.func100, by kernel_rfl, by kernel_rfl⟩ (by
  intro args ins out h hp
  unfold sp191 at h
  split at h
  · rename_i i j n l
    cases h
    exact vcFun_ok (C := C191) good snd188 methOk18 mix Go.Proofs.Try.func100 (ann191 n i j l) (fun hw => by rw [← vc191 n i j l]; exact pure191 n i j l hp.1 hp.2)
  · cases h)

theorem snd190 : Sound Go.Proofs.Try.prog G190 := snd191.add ⟨_, Go.Proofs.Try.func99, by kernel_rfl, by kernel_rfl⟩ (by
  intro args ins out h hp
  unfold sp190 at h
  split at h
  · rename_i a b n l
    cases h
    exact vcFun_ok (C := C190) good snd191 methOk18 mix Go.Proofs.Try.func99 (ann190 n l a b) (fun hw => by rw [← vc190 n l a b]; exact pure190 n l a b hp)
  · cases h)

theorem snd189 : Sound Go.Proofs.Try.prog G189 := snd190.add ⟨_, Go.Proofs.Try.func98, by kernel_rfl, by kernel_rfl⟩ (by
  intro args ins out h hp
  unfold sp189 at h
  split at h
  · rename_i n l
    cases h
    exact VCall.cut (out := raw189 n l) (vcFun_ok (C := C189) good snd190 methOk18 mix Go.Proofs.Try.func98 (ann189 n l) (fun hw => by rw [← vc189 n l]; exact pure189 n l hp)) rfl 1 ⟨false, false, (.cons (.int .i64) (.last (.int .i64))), l⟩ (n - 1) rfl rfl
  · cases h)

end Go.SL.A

/- Functions and what they are held to do: bound to their code. -/
namespace Go.SL.A
open Go Go.SL Go.SL.S
set_option maxRecDepth 100000
noncomputable def C128b : Ctx := ⟨Go.Proofs.Try.prog, D, G189, meth18, fun _ => []⟩
def ann128b (n : Nat) (j : Int) (l : List (Int × Int)) : Nat → St → Option Ann := fun _ _ => some ⟨Nat × List (Int × Int), [0], [0], fun x => [(1, .v (.int .i64) (x.1 : Int))], fun x => [(1, some ⟨false, false, (.cons (.int .i64) (.last (.int .i64))), x.2⟩)], fun x => x.2.length = n ∧ x.1 < n ∧ upL ltQ qz (x.1 + 1) x.2 x.1 = upL ltQ qz (j.toNat + 1) l j.toNat, fun x => x.1⟩
def out128b (n : Nat) (j : Int) (l : List (Int × Int)) : COut := ⟨[n = l.length ∧ n ≤ 1000000, 0 ≤ j ∧ j < n], .tup [], [(1, some ⟨false, false, (.cons (.int .i64) (.last (.int .i64))), upL ltQ qz (j.toNat + 1) l j.toNat⟩)], []⟩
def sp128b : Spec := fun args ins => match args, ins with
  | [⟨.ref .iface, .iface 103 (.ptr 0 (.cons (.ref .slice) (.last (.ref .func))) [0])⟩, ⟨.int .i64, j⟩], [⟨false, true, (.cons (.ref .slice) (.last (.ref .func))), [(.slice 1 (.cons (.int .i64) (.last (.int .i64))) [] 0 n, .func (.func 57) [] [])]⟩, ⟨false, false, (.cons (.int .i64) (.last (.int .i64))), l⟩] => some (out128b n j l)
  | _, _ => none
def G128b := addM G189 74 sp128b
def P128b (n : Nat) (j : Int) (l : List (Int × Int)) : Prop :=
  ∃ (x : Nat × List (Int × Int)), (((0 : Nat) = (0 : Nat) ∧ j = (↑(Prod.fst x) : Int) ∧ (0 : Nat) = (0 : Nat) ∧ n = n ∧ false = false ∧ l = Prod.snd x ∧ false = false) ∧ List.length (Prod.snd x) = n ∧ Prod.fst x < n ∧ upL
  ltQ qz (Prod.fst x + (1 : Nat)) (Prod.snd x) (Prod.fst x) = upL ltQ qz (Int.toNat j + (1 : Nat)) l (Int.toNat j)) ∧ ∀ (x : Nat × List (Int × Int)), List.length (Prod.snd x) = n ∧ Prod.fst x < n ∧ upL ltQ qz (Prod.fst x +
  (1 : Nat)) (Prod.snd x) (Prod.fst x) = upL ltQ qz (Int.toNat j + (1 : Nat)) l (Int.toNat j) → (IntKind.min IntKind.i64 ≤ (↑(Prod.fst x) : Int) ∧ (↑(Prod.fst x) : Int) ≤ IntKind.max IntKind.i64 ∧ ∀ (y : Int × Int),
  List.Mem y (Prod.snd x) → IntKind.min IntKind.i64 ≤ Prod.fst y ∧ Prod.fst y ≤ IntKind.max IntKind.i64 ∧ IntKind.min IntKind.i64 ≤ Prod.snd y ∧ Prod.snd y ≤ IntKind.max IntKind.i64) → (2 : Int) ≠ (0 : Int) ∧ bif decide
  (IntKind.wrap IntKind.i64 (Int.tdiv (IntKind.wrap IntKind.i64 ((↑(Prod.fst x) : Int) - (1 : Int))) (2 : Int)) = (↑(Prod.fst x) : Int)) then (true = false → false = true) ∧ (0 : Nat) = (0 : Nat) ∧ n = n ∧ false = false ∧
  Prod.snd x = upL ltQ qz (Int.toNat j + (1 : Nat)) l (Int.toNat j) ∧ false = false else (n = List.length (Prod.snd x) ∧ ((0 : Int) ≤ (↑(Prod.fst x) : Int) ∧ (↑(Prod.fst x) : Int) < (↑n : Int)) ∧ (0 : Int) ≤ IntKind.wrap
  IntKind.i64 (Int.tdiv (IntKind.wrap IntKind.i64 ((↑(Prod.fst x) : Int) - (1 : Int))) (2 : Int)) ∧ IntKind.wrap IntKind.i64 (Int.tdiv (IntKind.wrap IntKind.i64 ((↑(Prod.fst x) : Int) - (1 : Int))) (2 : Int)) < (↑n : Int))
  ∧ bif !ltQ (List.getD (Prod.snd x) (Int.toNat (↑(Prod.fst x) : Int)) qz) (List.getD (Prod.snd x) (Int.toNat (IntKind.wrap IntKind.i64 (Int.tdiv (IntKind.wrap IntKind.i64 ((↑(Prod.fst x) : Int) - (1 : Int))) (2 : Int))))
  qz) then (0 : Nat) = (0 : Nat) ∧ n = n ∧ false = false ∧ Prod.snd x = upL ltQ qz (Int.toNat j + (1 : Nat)) l (Int.toNat j) ∧ false = false else (n = List.length (Prod.snd x) ∧ ((0 : Int) ≤ IntKind.wrap IntKind.i64
  (Int.tdiv (IntKind.wrap IntKind.i64 ((↑(Prod.fst x) : Int) - (1 : Int))) (2 : Int)) ∧ IntKind.wrap IntKind.i64 (Int.tdiv (IntKind.wrap IntKind.i64 ((↑(Prod.fst x) : Int) - (1 : Int))) (2 : Int)) < (↑n : Int)) ∧ (0 : Int)
  ≤ (↑(Prod.fst x) : Int) ∧ (↑(Prod.fst x) : Int) < (↑n : Int)) ∧ ∃ (y : Nat × List (Int × Int)), ((0 : Nat) = (0 : Nat) ∧ IntKind.wrap IntKind.i64 (Int.tdiv (IntKind.wrap IntKind.i64 ((↑(Prod.fst x) : Int) - (1 : Int))) (2
  : Int)) = (↑(Prod.fst y) : Int) ∧ (0 : Nat) = (0 : Nat) ∧ n = n ∧ false = false ∧ swapL qz (Prod.snd x) (Int.toNat (IntKind.wrap IntKind.i64 (Int.tdiv (IntKind.wrap IntKind.i64 ((↑(Prod.fst x) : Int) - (1 : Int))) (2 :
  Int)))) (Int.toNat (↑(Prod.fst x) : Int)) = Prod.snd y ∧ false = false) ∧ (List.length (Prod.snd y) = n ∧ Prod.fst y < n ∧ upL ltQ qz (Prod.fst y + (1 : Nat)) (Prod.snd y) (Prod.fst y) = upL ltQ qz (Int.toNat j + (1 :
  Nat)) l (Int.toNat j)) ∧ Prod.fst y < Prod.fst x
theorem vc128b (n : Nat) (j : Int) (l : List (Int × Int)) : P128b n j l = vcFun C128b (ann128b n j l) Go.Proofs.Try.f74 [⟨.ref .iface, .iface 103 (.ptr 0 (.cons (.ref .slice) (.last (.ref .func))) [0])⟩, ⟨.int .i64, j⟩] [⟨false, true, (.cons (.ref .slice) (.last (.ref .func))), [(.slice 1 (.cons (.int .i64) (.last (.int .i64))) [] 0 n, .func (.func 57) [] [])]⟩, ⟨false, false, (.cons (.int .i64) (.last (.int .i64))), l⟩] (out128b n j l) := by kernel_rfl

noncomputable def C129b : Ctx := ⟨Go.Proofs.Try.prog, D, G128b, meth18, fun _ => []⟩
def ann129b (n : Nat) (i m : Int) (l : List (Int × Int)) : Nat → St → Option Ann := fun _ _ => some ⟨Nat × List (Int × Int), [0, 1, 2], [0], fun x => [(7, .v (.int .i64) (x.1 : Int))], fun x => [(1, some ⟨false, false, (.cons (.int .i64) (.last (.int .i64))), x.2⟩)], fun x => x.2.length = n ∧ x.1 ≤ 1000000 ∧ downL ltQ qz m.toNat (m.toNat - x.1) x.2 x.1 = downL ltQ qz m.toNat (m.toNat - i.toNat) l i.toNat, fun x => m.toNat - x.1⟩
def out129b (n : Nat) (i m : Int) (l : List (Int × Int)) : COut := ⟨[n = l.length ∧ n ≤ 1000000, (0 ≤ i ∧ i ≤ 1000000) ∧ 0 ≤ m ∧ m ≤ n], .v .bool (decide (i < ((downL ltQ qz m.toNat (m.toNat - i.toNat) l i.toNat).2 : Nat))), [(1, some ⟨false, false, (.cons (.int .i64) (.last (.int .i64))), (downL ltQ qz m.toNat (m.toNat - i.toNat) l i.toNat).1⟩)], []⟩
def sp129b : Spec := fun args ins => match args, ins with
  | [⟨.ref .iface, .iface 103 (.ptr 0 (.cons (.ref .slice) (.last (.ref .func))) [0])⟩, ⟨.int .i64, i⟩, ⟨.int .i64, m⟩], [⟨false, true, (.cons (.ref .slice) (.last (.ref .func))), [(.slice 1 (.cons (.int .i64) (.last (.int .i64))) [] 0 n, .func (.func 57) [] [])]⟩, ⟨false, false, (.cons (.int .i64) (.last (.int .i64))), l⟩] => some (out129b n i m l)
  | _, _ => none
def G129b := addM G128b 75 sp129b
def P129b (n : Nat) (i m : Int) (l : List (Int × Int)) : Prop :=
  ∃ (x : Nat × List (Int × Int)), (((0 : Nat) = (0 : Nat) ∧ i = i ∧ m = m ∧ i = (↑(Prod.fst x) : Int) ∧ (0 : Nat) = (0 : Nat) ∧ n = n ∧ false = false ∧ l = Prod.snd x ∧ false = false) ∧ List.length (Prod.snd x) = n ∧
  Prod.fst x ≤ (1000000 : Nat) ∧ downL ltQ qz (Int.toNat m) (Int.toNat m - Prod.fst x) (Prod.snd x) (Prod.fst x) = downL ltQ qz (Int.toNat m) (Int.toNat m - Int.toNat i) l (Int.toNat i)) ∧ ∀ (x : Nat × List (Int × Int)),
  List.length (Prod.snd x) = n ∧ Prod.fst x ≤ (1000000 : Nat) ∧ downL ltQ qz (Int.toNat m) (Int.toNat m - Prod.fst x) (Prod.snd x) (Prod.fst x) = downL ltQ qz (Int.toNat m) (Int.toNat m - Int.toNat i) l (Int.toNat i) →
  (IntKind.min IntKind.i64 ≤ (↑(Prod.fst x) : Int) ∧ (↑(Prod.fst x) : Int) ≤ IntKind.max IntKind.i64 ∧ ∀ (y : Int × Int), List.Mem y (Prod.snd x) → IntKind.min IntKind.i64 ≤ Prod.fst y ∧ Prod.fst y ≤ IntKind.max IntKind.i64
  ∧ IntKind.min IntKind.i64 ≤ Prod.snd y ∧ Prod.snd y ≤ IntKind.max IntKind.i64) → ∀ (b : Bool), decide (m ≤ IntKind.wrap IntKind.i64 (IntKind.wrap IntKind.i64 ((2 : Int) * (↑(Prod.fst x) : Int)) + (1 : Int))) = b → (((!b)
  = true → (!b) = true) ∧ (b = false → (!b) = true)) ∧ bif bif b then true else decide (IntKind.wrap IntKind.i64 (IntKind.wrap IntKind.i64 ((2 : Int) * (↑(Prod.fst x) : Int)) + (1 : Int)) < (0 : Int)) then decide (i <
  (↑(Prod.fst x) : Int)) = decide (i < (↑(Prod.snd (downL ltQ qz (Int.toNat m) (Int.toNat m - Int.toNat i) l (Int.toNat i))) : Int)) ∧ (0 : Nat) = (0 : Nat) ∧ n = n ∧ false = false ∧ Prod.snd x = Prod.fst (downL ltQ qz
  (Int.toNat m) (Int.toNat m - Int.toNat i) l (Int.toNat i)) ∧ false = false else bif decide (IntKind.wrap IntKind.i64 (IntKind.wrap IntKind.i64 (IntKind.wrap IntKind.i64 ((2 : Int) * (↑(Prod.fst x) : Int)) + (1 : Int)) +
  (1 : Int)) < m) then (n = List.length (Prod.snd x) ∧ ((0 : Int) ≤ IntKind.wrap IntKind.i64 (IntKind.wrap IntKind.i64 (IntKind.wrap IntKind.i64 ((2 : Int) * (↑(Prod.fst x) : Int)) + (1 : Int)) + (1 : Int)) ∧ IntKind.wrap
  IntKind.i64 (IntKind.wrap IntKind.i64 (IntKind.wrap IntKind.i64 ((2 : Int) * (↑(Prod.fst x) : Int)) + (1 : Int)) + (1 : Int)) < (↑n : Int)) ∧ (0 : Int) ≤ IntKind.wrap IntKind.i64 (IntKind.wrap IntKind.i64 ((2 : Int) *
  (↑(Prod.fst x) : Int)) + (1 : Int)) ∧ IntKind.wrap IntKind.i64 (IntKind.wrap IntKind.i64 ((2 : Int) * (↑(Prod.fst x) : Int)) + (1 : Int)) < (↑n : Int)) ∧ bif ltQ (List.getD (Prod.snd x) (Int.toNat (IntKind.wrap
  IntKind.i64 (IntKind.wrap IntKind.i64 (IntKind.wrap IntKind.i64 ((2 : Int) * (↑(Prod.fst x) : Int)) + (1 : Int)) + (1 : Int)))) qz) (List.getD (Prod.snd x) (Int.toNat (IntKind.wrap IntKind.i64 (IntKind.wrap IntKind.i64
  ((2 : Int) * (↑(Prod.fst x) : Int)) + (1 : Int)))) qz) then (n = List.length (Prod.snd x) ∧ ((0 : Int) ≤ IntKind.wrap IntKind.i64 (IntKind.wrap IntKind.i64 (IntKind.wrap IntKind.i64 ((2 : Int) * (↑(Prod.fst x) : Int)) +
  (1 : Int)) + (1 : Int)) ∧ IntKind.wrap IntKind.i64 (IntKind.wrap IntKind.i64 (IntKind.wrap IntKind.i64 ((2 : Int) * (↑(Prod.fst x) : Int)) + (1 : Int)) + (1 : Int)) < (↑n : Int)) ∧ (0 : Int) ≤ (↑(Prod.fst x) : Int) ∧
  (↑(Prod.fst x) : Int) < (↑n : Int)) ∧ bif !ltQ (List.getD (Prod.snd x) (Int.toNat (IntKind.wrap IntKind.i64 (IntKind.wrap IntKind.i64 (IntKind.wrap IntKind.i64 ((2 : Int) * (↑(Prod.fst x) : Int)) + (1 : Int)) + (1 :
  Int)))) qz) (List.getD (Prod.snd x) (Int.toNat (↑(Prod.fst x) : Int)) qz) then decide (i < (↑(Prod.fst x) : Int)) = decide (i < (↑(Prod.snd (downL ltQ qz (Int.toNat m) (Int.toNat m - Int.toNat i) l (Int.toNat i))) : Int))
  ∧ (0 : Nat) = (0 : Nat) ∧ n = n ∧ false = false ∧ Prod.snd x = Prod.fst (downL ltQ qz (Int.toNat m) (Int.toNat m - Int.toNat i) l (Int.toNat i)) ∧ false = false else (n = List.length (Prod.snd x) ∧ ((0 : Int) ≤
  (↑(Prod.fst x) : Int) ∧ (↑(Prod.fst x) : Int) < (↑n : Int)) ∧ (0 : Int) ≤ IntKind.wrap IntKind.i64 (IntKind.wrap IntKind.i64 (IntKind.wrap IntKind.i64 ((2 : Int) * (↑(Prod.fst x) : Int)) + (1 : Int)) + (1 : Int)) ∧
  IntKind.wrap IntKind.i64 (IntKind.wrap IntKind.i64 (IntKind.wrap IntKind.i64 ((2 : Int) * (↑(Prod.fst x) : Int)) + (1 : Int)) + (1 : Int)) < (↑n : Int)) ∧ ∃ (y : Nat × List (Int × Int)), ((0 : Nat) = (0 : Nat) ∧ i = i ∧ m
  = m ∧ IntKind.wrap IntKind.i64 (IntKind.wrap IntKind.i64 (IntKind.wrap IntKind.i64 ((2 : Int) * (↑(Prod.fst x) : Int)) + (1 : Int)) + (1 : Int)) = (↑(Prod.fst y) : Int) ∧ (0 : Nat) = (0 : Nat) ∧ n = n ∧ false = false ∧
  swapL qz (Prod.snd x) (Int.toNat (↑(Prod.fst x) : Int)) (Int.toNat (IntKind.wrap IntKind.i64 (IntKind.wrap IntKind.i64 (IntKind.wrap IntKind.i64 ((2 : Int) * (↑(Prod.fst x) : Int)) + (1 : Int)) + (1 : Int)))) = Prod.snd y
  ∧ false = false) ∧ (List.length (Prod.snd y) = n ∧ Prod.fst y ≤ (1000000 : Nat) ∧ downL ltQ qz (Int.toNat m) (Int.toNat m - Prod.fst y) (Prod.snd y) (Prod.fst y) = downL ltQ qz (Int.toNat m) (Int.toNat m - Int.toNat i) l
  (Int.toNat i)) ∧ Int.toNat m - Prod.fst y < Int.toNat m - Prod.fst x else (n = List.length (Prod.snd x) ∧ ((0 : Int) ≤ IntKind.wrap IntKind.i64 (IntKind.wrap IntKind.i64 ((2 : Int) * (↑(Prod.fst x) : Int)) + (1 : Int)) ∧
  IntKind.wrap IntKind.i64 (IntKind.wrap IntKind.i64 ((2 : Int) * (↑(Prod.fst x) : Int)) + (1 : Int)) < (↑n : Int)) ∧ (0 : Int) ≤ (↑(Prod.fst x) : Int) ∧ (↑(Prod.fst x) : Int) < (↑n : Int)) ∧ bif !ltQ (List.getD (Prod.snd
  x) (Int.toNat (IntKind.wrap IntKind.i64 (IntKind.wrap IntKind.i64 ((2 : Int) * (↑(Prod.fst x) : Int)) + (1 : Int)))) qz) (List.getD (Prod.snd x) (Int.toNat (↑(Prod.fst x) : Int)) qz) then decide (i < (↑(Prod.fst x) :
  Int)) = decide (i < (↑(Prod.snd (downL ltQ qz (Int.toNat m) (Int.toNat m - Int.toNat i) l (Int.toNat i))) : Int)) ∧ (0 : Nat) = (0 : Nat) ∧ n = n ∧ false = false ∧ Prod.snd x = Prod.fst (downL ltQ qz (Int.toNat m)
  (Int.toNat m - Int.toNat i) l (Int.toNat i)) ∧ false = false else (n = List.length (Prod.snd x) ∧ ((0 : Int) ≤ (↑(Prod.fst x) : Int) ∧ (↑(Prod.fst x) : Int) < (↑n : Int)) ∧ (0 : Int) ≤ IntKind.wrap IntKind.i64
  (IntKind.wrap IntKind.i64 ((2 : Int) * (↑(Prod.fst x) : Int)) + (1 : Int)) ∧ IntKind.wrap IntKind.i64 (IntKind.wrap IntKind.i64 ((2 : Int) * (↑(Prod.fst x) : Int)) + (1 : Int)) < (↑n : Int)) ∧ ∃ (y : Nat × List (Int ×
  Int)), ((0 : Nat) = (0 : Nat) ∧ i = i ∧ m = m ∧ IntKind.wrap IntKind.i64 (IntKind.wrap IntKind.i64 ((2 : Int) * (↑(Prod.fst x) : Int)) + (1 : Int)) = (↑(Prod.fst y) : Int) ∧ (0 : Nat) = (0 : Nat) ∧ n = n ∧ false = false ∧
  swapL qz (Prod.snd x) (Int.toNat (↑(Prod.fst x) : Int)) (Int.toNat (IntKind.wrap IntKind.i64 (IntKind.wrap IntKind.i64 ((2 : Int) * (↑(Prod.fst x) : Int)) + (1 : Int)))) = Prod.snd y ∧ false = false) ∧ (List.length
  (Prod.snd y) = n ∧ Prod.fst y ≤ (1000000 : Nat) ∧ downL ltQ qz (Int.toNat m) (Int.toNat m - Prod.fst y) (Prod.snd y) (Prod.fst y) = downL ltQ qz (Int.toNat m) (Int.toNat m - Int.toNat i) l (Int.toNat i)) ∧ Int.toNat m -
  Prod.fst y < Int.toNat m - Prod.fst x else (false = true → false = true) ∧ (n = List.length (Prod.snd x) ∧ ((0 : Int) ≤ IntKind.wrap IntKind.i64 (IntKind.wrap IntKind.i64 ((2 : Int) * (↑(Prod.fst x) : Int)) + (1 : Int)) ∧
  IntKind.wrap IntKind.i64 (IntKind.wrap IntKind.i64 ((2 : Int) * (↑(Prod.fst x) : Int)) + (1 : Int)) < (↑n : Int)) ∧ (0 : Int) ≤ (↑(Prod.fst x) : Int) ∧ (↑(Prod.fst x) : Int) < (↑n : Int)) ∧ bif !ltQ (List.getD (Prod.snd
  x) (Int.toNat (IntKind.wrap IntKind.i64 (IntKind.wrap IntKind.i64 ((2 : Int) * (↑(Prod.fst x) : Int)) + (1 : Int)))) qz) (List.getD (Prod.snd x) (Int.toNat (↑(Prod.fst x) : Int)) qz) then decide (i < (↑(Prod.fst x) :
  Int)) = decide (i < (↑(Prod.snd (downL ltQ qz (Int.toNat m) (Int.toNat m - Int.toNat i) l (Int.toNat i))) : Int)) ∧ (0 : Nat) = (0 : Nat) ∧ n = n ∧ false = false ∧ Prod.snd x = Prod.fst (downL ltQ qz (Int.toNat m)
  (Int.toNat m - Int.toNat i) l (Int.toNat i)) ∧ false = false else (n = List.length (Prod.snd x) ∧ ((0 : Int) ≤ (↑(Prod.fst x) : Int) ∧ (↑(Prod.fst x) : Int) < (↑n : Int)) ∧ (0 : Int) ≤ IntKind.wrap IntKind.i64
  (IntKind.wrap IntKind.i64 ((2 : Int) * (↑(Prod.fst x) : Int)) + (1 : Int)) ∧ IntKind.wrap IntKind.i64 (IntKind.wrap IntKind.i64 ((2 : Int) * (↑(Prod.fst x) : Int)) + (1 : Int)) < (↑n : Int)) ∧ ∃ (y : Nat × List (Int ×
  Int)), ((0 : Nat) = (0 : Nat) ∧ i = i ∧ m = m ∧ IntKind.wrap IntKind.i64 (IntKind.wrap IntKind.i64 ((2 : Int) * (↑(Prod.fst x) : Int)) + (1 : Int)) = (↑(Prod.fst y) : Int) ∧ (0 : Nat) = (0 : Nat) ∧ n = n ∧ false = false ∧
  swapL qz (Prod.snd x) (Int.toNat (↑(Prod.fst x) : Int)) (Int.toNat (IntKind.wrap IntKind.i64 (IntKind.wrap IntKind.i64 ((2 : Int) * (↑(Prod.fst x) : Int)) + (1 : Int)))) = Prod.snd y ∧ false = false) ∧ (List.length
  (Prod.snd y) = n ∧ Prod.fst y ≤ (1000000 : Nat) ∧ downL ltQ qz (Int.toNat m) (Int.toNat m - Prod.fst y) (Prod.snd y) (Prod.fst y) = downL ltQ qz (Int.toNat m) (Int.toNat m - Int.toNat i) l (Int.toNat i)) ∧ Int.toNat m -
  Prod.fst y < Int.toNat m - Prod.fst x
theorem vc129b (n : Nat) (i m : Int) (l : List (Int × Int)) : P129b n i m l = vcFun C129b (ann129b n i m l) Go.Proofs.Try.f75 [⟨.ref .iface, .iface 103 (.ptr 0 (.cons (.ref .slice) (.last (.ref .func))) [0])⟩, ⟨.int .i64, i⟩, ⟨.int .i64, m⟩] [⟨false, true, (.cons (.ref .slice) (.last (.ref .func))), [(.slice 1 (.cons (.int .i64) (.last (.int .i64))) [] 0 n, .func (.func 57) [] [])]⟩, ⟨false, false, (.cons (.int .i64) (.last (.int .i64))), l⟩] (out129b n i m l) := by kernel_rfl

noncomputable def C94b : Ctx := ⟨Go.Proofs.Try.prog, D, G129b, meth18, fun _ => []⟩
def ann94b (_n : Nat) (_l : List (Int × Int)) (_a _b : Int) : Nat → St → Option Ann := fun _ _ => none
def out94b (n : Nat) (l : List (Int × Int)) (a b : Int) : COut := ⟨[n = l.length ∧ n ≤ 1000], .tup [], [(0, some ⟨false, true, (.cons (.ref .slice) (.last (.ref .func))), [(.slice 2 (.cons (.int .i64) (.last (.int .i64))) [] 0 (n + 1), .func (.func 57) [] [])]⟩), (1, none)], [⟨false, false, (.cons (.int .i64) (.last (.int .i64))), pushL ltQ qz l (a, b)⟩]⟩
def sp94b : Spec := fun args ins => match args, ins with
  | [⟨.ref .iface, .iface 103 (.ptr 0 (.cons (.ref .slice) (.last (.ref .func))) [0])⟩, ⟨.ref .iface, .iface 110 (.agg [.int .i64 a, .int .i64 b])⟩], [⟨false, true, (.cons (.ref .slice) (.last (.ref .func))), [(.slice 1 (.cons (.int .i64) (.last (.int .i64))) [] 0 n, .func (.func 57) [] [])]⟩, ⟨false, false, (.cons (.int .i64) (.last (.int .i64))), l⟩] => some (out94b n l a b)
  | _, _ => none
def G94b := addM G129b 58 sp94b
def P94b (n : Nat) (l : List (Int × Int)) (a b : Int) : Prop :=
  (n = List.length l ∧ n ≤ (1000000 : Nat)) ∧ ((n + (1 : Nat) = List.length (l ++ [(a, b)]) ∧ n + (1 : Nat) ≤ (1000000 : Nat)) ∧ (0 : Int) ≤ IntKind.wrap IntKind.i64 ((↑(n + (1 : Nat)) : Int) - (1 : Int)) ∧ IntKind.wrap
  IntKind.i64 ((↑(n + (1 : Nat)) : Int) - (1 : Int)) < (↑(n + (1 : Nat)) : Int)) ∧ (0 : Nat) = (0 : Nat) ∧ n + (1 : Nat) = n + (1 : Nat) ∧ false = false ∧ upL ltQ qz (Int.toNat (IntKind.wrap IntKind.i64 ((↑(n + (1 : Nat)) :
  Int) - (1 : Int))) + (1 : Nat)) (l ++ [(a, b)]) (Int.toNat (IntKind.wrap IntKind.i64 ((↑(n + (1 : Nat)) : Int) - (1 : Int)))) = pushL ltQ qz l (a, b) ∧ false = false
theorem vc94b (n : Nat) (l : List (Int × Int)) (a b : Int) : P94b n l a b = vcFun C94b (ann94b n l a b) Go.Proofs.Try.f58 [⟨.ref .iface, .iface 103 (.ptr 0 (.cons (.ref .slice) (.last (.ref .func))) [0])⟩, ⟨.ref .iface, .iface 110 (.agg [.int .i64 a, .int .i64 b])⟩] [⟨false, true, (.cons (.ref .slice) (.last (.ref .func))), [(.slice 1 (.cons (.int .i64) (.last (.int .i64))) [] 0 n, .func (.func 57) [] [])]⟩, ⟨false, false, (.cons (.int .i64) (.last (.int .i64))), l⟩] (out94b n l a b) := by kernel_rfl

noncomputable def C103 : Ctx := ⟨Go.Proofs.Try.prog, D, G94b, meth18, fun _ => []⟩
def ann103 (_n : Nat) (_l : List (Int × Int)) : Nat → St → Option Ann := fun _ _ => none
def out103 (n : Nat) (l : List (Int × Int)) : COut := ⟨[n = l.length ∧ 0 < n ∧ n ≤ 1000], .v (.ref .iface) (.iface 110 (.agg [.int .i64 (l.getD 0 qz).1, .int .i64 (l.getD 0 qz).2])), [(0, some ⟨false, true, (.cons (.ref .slice) (.last (.ref .func))), [(.slice 1 (.cons (.int .i64) (.last (.int .i64))) [] 0 (n - 1), .func (.func 57) [] [])]⟩), (1, some ⟨false, false, (.cons (.int .i64) (.last (.int .i64))), popL ltQ qz l⟩)], []⟩
def sp103 : Spec := fun args ins => match args, ins with
  | [⟨.ref .iface, .iface 103 (.ptr 0 (.cons (.ref .slice) (.last (.ref .func))) [0])⟩], [⟨false, true, (.cons (.ref .slice) (.last (.ref .func))), [(.slice 1 (.cons (.int .i64) (.last (.int .i64))) [] 0 n, .func (.func 57) [] [])]⟩, ⟨false, false, (.cons (.int .i64) (.last (.int .i64))), l⟩] => some (out103 n l)
  | _, _ => none
def G103 := addG G94b 60 sp103
def P103 (n : Nat) (l : List (Int × Int)) : Prop :=
  (n = List.length l ∧ ((0 : Int) ≤ (0 : Int) ∧ (0 : Int) < (↑n : Int)) ∧ (0 : Int) ≤ IntKind.wrap IntKind.i64 ((↑n : Int) - (1 : Int)) ∧ IntKind.wrap IntKind.i64 ((↑n : Int) - (1 : Int)) < (↑n : Int)) ∧ ((n = List.length
  (swapL qz l (0 : Nat) (Int.toNat (IntKind.wrap IntKind.i64 ((↑n : Int) - (1 : Int))))) ∧ n ≤ (1000000 : Nat)) ∧ ((0 : Int) ≤ (0 : Int) ∧ (0 : Int) ≤ (1000000 : Int)) ∧ (0 : Int) ≤ IntKind.wrap IntKind.i64 ((↑n : Int) - (1
  : Int)) ∧ IntKind.wrap IntKind.i64 ((↑n : Int) - (1 : Int)) ≤ (↑n : Int)) ∧ (n = List.length (Prod.fst (downL ltQ qz (Int.toNat (IntKind.wrap IntKind.i64 ((↑n : Int) - (1 : Int)))) (Int.toNat (IntKind.wrap IntKind.i64
  ((↑n : Int) - (1 : Int))) - (0 : Nat)) (swapL qz l (0 : Nat) (Int.toNat (IntKind.wrap IntKind.i64 ((↑n : Int) - (1 : Int))))) (0 : Nat))) ∧ (0 : Nat) < n ∧ n ≤ (1000000 : Nat)) ∧ Ref.agg [Ref.int IntKind.i64 (Prod.fst
  (List.getD (Prod.fst (downL ltQ qz (Int.toNat (IntKind.wrap IntKind.i64 ((↑n : Int) - (1 : Int)))) (Int.toNat (IntKind.wrap IntKind.i64 ((↑n : Int) - (1 : Int))) - (0 : Nat)) (swapL qz l (0 : Nat) (Int.toNat (IntKind.wrap
  IntKind.i64 ((↑n : Int) - (1 : Int))))) (0 : Nat))) (n - (1 : Nat)) qz)), Ref.int IntKind.i64 (Prod.snd (List.getD (Prod.fst (downL ltQ qz (Int.toNat (IntKind.wrap IntKind.i64 ((↑n : Int) - (1 : Int)))) (Int.toNat
  (IntKind.wrap IntKind.i64 ((↑n : Int) - (1 : Int))) - (0 : Nat)) (swapL qz l (0 : Nat) (Int.toNat (IntKind.wrap IntKind.i64 ((↑n : Int) - (1 : Int))))) (0 : Nat))) (n - (1 : Nat)) qz))] = Ref.agg [Ref.int IntKind.i64
  (Prod.fst (List.getD l (0 : Nat) qz)), Ref.int IntKind.i64 (Prod.snd (List.getD l (0 : Nat) qz))] ∧ (0 : Nat) = (0 : Nat) ∧ n - (1 : Nat) = n - (1 : Nat) ∧ false = false ∧ List.take (n - (1 : Nat)) (Prod.fst (downL ltQ qz
  (Int.toNat (IntKind.wrap IntKind.i64 ((↑n : Int) - (1 : Int)))) (Int.toNat (IntKind.wrap IntKind.i64 ((↑n : Int) - (1 : Int))) - (0 : Nat)) (swapL qz l (0 : Nat) (Int.toNat (IntKind.wrap IntKind.i64 ((↑n : Int) - (1 :
  Int))))) (0 : Nat))) = popL ltQ qz l ∧ false = false
theorem vc103 (n : Nat) (l : List (Int × Int)) : P103 n l = vcFun C103 (ann103 n l) Go.Proofs.Try.f60 [⟨.ref .iface, .iface 103 (.ptr 0 (.cons (.ref .slice) (.last (.ref .func))) [0])⟩] [⟨false, true, (.cons (.ref .slice) (.last (.ref .func))), [(.slice 1 (.cons (.int .i64) (.last (.int .i64))) [] 0 n, .func (.func 57) [] [])]⟩, ⟨false, false, (.cons (.int .i64) (.last (.int .i64))), l⟩] (out103 n l) := by kernel_rfl

end Go.SL.A

/- Queues: up, down, push, pop. -/
namespace Go.SL.A
open Go Go.SL Go.SL.S

theorem pure128b (n : Nat) (j : Int) (l : List (Int × Int)) (h1 : n = l.length ∧ n ≤ 1000000) (h2 : 0 ≤ j ∧ j < n) : P128b n j l := by
  obtain ⟨rfl, h1⟩ := h1
  unfold P128b
  simp only [eq_self, true_and, and_true, Int.toNat_natCast]
  refine ⟨(j.toNat, l), ⟨⟨(Int.toNat_of_nonneg h2.1).symm, rfl⟩, rfl, by simp only; omega, rfl⟩, fun x hx _ => ?_⟩
  obtain ⟨k, L⟩ := x
  obtain ⟨hl, hk, he⟩ := hx
  simp only at hl hk he ⊢
  rw [half_up (by omega)]
  simp only [Int.toNat_natCast]
  refine ⟨by decide, ?_⟩
  by_cases h0 : (k - 1) / 2 = k
  · have h0' : (((k - 1) / 2 : Nat) : Int) = (k : Int) := by rw [h0]
    rw [decide_eq_true h0', cond_true]
    refine ⟨by simp, ?_⟩
    rw [upL, decide_eq_true h0] at he
    exact he
  · have h0' : ¬ (((k - 1) / 2 : Nat) : Int) = (k : Int) := by omega
    rw [decide_eq_false h0', cond_false]
    refine ⟨⟨hl.symm, ⟨by omega, by omega⟩, by omega, by omega⟩, ?_⟩
    rw [upL, decide_eq_false h0] at he
    cases hlt : ltQ (L.getD k qz) (L.getD ((k - 1) / 2) qz) with
    | false =>
      rw [hlt] at he
      simp only [Bool.not_false, cond_true]
      exact he
    | true =>
      rw [hlt] at he
      simp only [Bool.not_true, cond_false]
      simp only at he
      rw [upL_fuel ltQ qz k _ _ (by omega)] at he
      refine ⟨⟨hl.symm, ⟨by omega, by omega⟩, by omega, by omega⟩, ((k - 1) / 2, swapL qz L ((k - 1) / 2) k), ⟨rfl, rfl⟩, ⟨by simp only [swapL_len]; exact hl, by simp only; omega, he⟩, by simp only; omega⟩

theorem tail129b {n : Nat} {i m : Int} {L : List (Int × Int)} {R : List (Int × Int) × Nat} {k c : Nat} (hl : L.length = n) (hn : n ≤ 1000000) (hm : m.toNat ≤ n) (he : downL ltQ qz m.toNat (m.toNat - k) L k = R) (hk : 2 * k + 1 < m.toNat)
    (hc : childL ltQ qz L k m.toNat = c) (hcm : c < m.toNat) (hkc : k < c) :
    (n = L.length ∧ (0 ≤ (c : Int) ∧ (c : Int) < (n : Int)) ∧ 0 ≤ (k : Int) ∧ (k : Int) < (n : Int)) ∧
    bif !ltQ (L.getD c qz) (L.getD k qz) then decide (i < (k : Int)) = decide (i < (R.2 : Int)) ∧ L = R.1
    else (n = L.length ∧ (0 ≤ (k : Int) ∧ (k : Int) < (n : Int)) ∧ 0 ≤ (c : Int) ∧ (c : Int) < (n : Int)) ∧ ∃ y : Nat × List (Int × Int), ((c : Int) = (y.1 : Int) ∧ swapL qz L k c = y.2) ∧
      (y.2.length = n ∧ y.1 ≤ 1000000 ∧ downL ltQ qz m.toNat (m.toNat - y.1) y.2 y.1 = R) ∧ m.toNat - y.1 < m.toNat - k := by
  refine ⟨⟨hl.symm, ⟨by omega, by omega⟩, by omega, by omega⟩, ?_⟩
  rw [downL_step ltQ qz L hk, hc] at he
  cases hlt : ltQ (L.getD c qz) (L.getD k qz) with
  | false =>
    rw [hlt] at he
    simp only [Bool.not_false, cond_true]
    rw [cond_false] at he
    rw [← he]; exact ⟨rfl, rfl⟩
  | true =>
    rw [hlt, cond_true] at he
    simp only [Bool.not_true, cond_false]
    exact ⟨⟨hl.symm, ⟨by omega, by omega⟩, by omega, by omega⟩, (c, swapL qz L k c), ⟨rfl, rfl⟩, ⟨by simp only [swapL_len]; exact hl, by simp only; omega, he⟩, by simp only; omega⟩

theorem pure129b (n : Nat) (i m : Int) (l : List (Int × Int)) (h1 : n = l.length ∧ n ≤ 1000000) (h2 : (0 ≤ i ∧ i ≤ 1000000) ∧ 0 ≤ m ∧ m ≤ n) : P129b n i m l := by
  obtain ⟨rfl, h1⟩ := h1
  obtain ⟨⟨h4, h5⟩, h6, h7⟩ := h2
  unfold P129b
  simp only [eq_self, true_and, and_true, Int.toNat_natCast]
  refine ⟨(i.toNat, l), ⟨⟨(Int.toNat_of_nonneg h4).symm, rfl⟩, rfl, by simp only; omega, rfl⟩, fun x hx _ => ?_⟩
  obtain ⟨k, L⟩ := x
  obtain ⟨hl, hk, he⟩ := hx
  simp only at hl hk he ⊢
  have w1 : IntKind.i64.wrap (IntKind.i64.wrap (2 * (k : Int)) + 1) = ((2 * k + 1 : Nat) : Int) := by
    rw [w64 (n := 2 * (k : Int)) (by omega) (by omega), w64 (by omega) (by omega)]; omega
  have w2 : IntKind.i64.wrap (((2 * k + 1 : Nat) : Int) + 1) = ((2 * k + 2 : Nat) : Int) := by rw [w64 (by omega) (by omega)]; omega
  rw [w1, w2]
  simp only [Int.toNat_natCast]
  rintro _ rfl
  generalize downL ltQ qz m.toNat (m.toNat - i.toNat) l i.toNat = R at *
  by_cases c1 : m ≤ ((2 * k + 1 : Nat) : Int)
  · simp only [c1, decide_true, cond_true, Bool.not_true]
    rw [downL_stop ltQ qz L (by omega)] at he
    rw [← he]
    simp
  · have c2 : ¬ ((2 * k + 1 : Nat) : Int) < 0 := by omega
    simp only [c1, c2, decide_false, cond_false, Bool.not_false]
    refine ⟨by simp, ?_⟩
    have hcc := childL_cases ltQ qz L k m.toNat
    by_cases c3 : ((2 * k + 2 : Nat) : Int) < m
    · simp only [c3, decide_true, cond_true]
      refine ⟨⟨hl.symm, ⟨by omega, by omega⟩, by omega, by omega⟩, ?_⟩
      cases hlt : ltQ (L.getD (2 * k + 2) qz) (L.getD (2 * k + 1) qz) with
      | true =>
        simp only [cond_true]
        refine tail129b hl h1 (by omega) he (by omega) ?_ (by omega) (by omega)
        rcases hcc with ⟨_, h⟩ | ⟨h, _⟩
        · have := h (by omega); rw [hlt] at this; cases this
        · exact h
      | false =>
        simp only [cond_false]
        refine tail129b hl h1 (by omega) he (by omega) ?_ (by omega) (by omega)
        rcases hcc with ⟨h, _⟩ | ⟨_, _, h⟩
        · exact h
        · rw [hlt] at h; cases h
    · simp only [c3, decide_false, cond_false]
      refine ⟨by simp, ?_⟩
      refine tail129b hl h1 (by omega) he (by omega) ?_ (by omega) (by omega)
      rcases hcc with ⟨h, _⟩ | ⟨_, h, _⟩
      · exact h
      · omega

theorem pure94b (n : Nat) (l : List (Int × Int)) (a b : Int) (h1 : n = l.length ∧ n ≤ 1000) : P94b n l a b := by
  obtain ⟨rfl, h1⟩ := h1
  unfold P94b
  have w1 : IntKind.i64.wrap (((l.length + 1 : Nat) : Int) - 1) = (l.length : Int) := by rw [w64 (by omega) (by omega)]; omega
  rw [w1]
  simp only [eq_self, true_and, and_true, Int.toNat_natCast, List.length_append, List.length_singleton]
  exact ⟨by omega, ⟨by omega, ⟨by omega, by omega⟩⟩, rfl⟩

theorem pure103 (n : Nat) (l : List (Int × Int)) (h : n = l.length ∧ 0 < n ∧ n ≤ 1000) : P103 n l := by
  obtain ⟨rfl, h2, h3⟩ := h
  unfold P103
  have w : IntKind.i64.wrap ((l.length : Int) - 1) = ((l.length - 1 : Nat) : Int) := by rw [w64 (by omega) (by omega)]; omega
  rw [w]
  simp only [Int.toNat_natCast, Nat.sub_zero]
  have hs := swapL_getD qz (l := l) (i := 0) (j := l.length - 1) (by omega) (by omega) (l.length - 1)
  rw [if_pos rfl] at hs
  have hk := downL_keep ltQ qz (l.length - 1) (l.length - 1) (swapL qz l 0 (l.length - 1)) 0 (by rw [swapL_len]; omega) (l.length - 1) (Nat.le_refl _)
  rw [hs] at hk
  rw [hk]
  refine ⟨⟨trivial, ⟨by omega, by omega⟩, by omega, by omega⟩, ⟨⟨(swapL_len _ _ _ _).symm, by omega⟩, ⟨by omega, by omega⟩, by omega, by omega⟩, ⟨?_, by omega, by omega⟩, ?_⟩
  · rw [downL_len, swapL_len]
  · simp only [eq_self, true_and, and_true]
    rfl
end Go.SL.A

/- Functions do what they are held to do. -/
namespace Go.SL.A
open Go Go.SL Go.SL.S
theorem snd128b : Sound Go.Proofs.Try.prog G128b := snd189.addM ⟨_, Go.Proofs.Try.func74, by kernel_rfl, by kernel_rfl⟩ (by
  intro args ins out h hp
  unfold sp128b at h
  split at h
  · rename_i j n l
    cases h
    exact vcFun_ok (C := C128b) good snd189 methOk18 mix Go.Proofs.Try.func74 (ann128b n j l) (fun hw => by rw [← vc128b n j l]; exact pure128b n j l hp.1 hp.2)
  · cases h)

theorem snd129b : Sound Go.Proofs.Try.prog G129b := snd128b.addM ⟨_, Go.Proofs.Try.func75, by kernel_rfl, by kernel_rfl⟩ (by
  intro args ins out h hp
  unfold sp129b at h
  split at h
  · rename_i i m n l
    cases h
    exact vcFun_ok (C := C129b) good snd128b methOk18 mix Go.Proofs.Try.func75 (ann129b n i m l) (fun hw => by rw [← vc129b n i m l]; exact pure129b n i m l hp.1 hp.2)
  · cases h)

theorem snd94b : Sound Go.Proofs.Try.prog G94b := snd129b.addM ⟨_, Go.Proofs.Try.func58, by kernel_rfl, by kernel_rfl⟩ (by
  intro args ins out h hp
  unfold sp94b at h
  split at h
  · rename_i a b n l
    cases h
    exact vcFun_ok (C := C94b) good snd129b methOk18 mix Go.Proofs.Try.func58 (ann94b n l a b) (fun hw => by rw [← vc94b n l a b]; exact pure94b n l a b hp)
  · cases h)

theorem snd103 : Sound Go.Proofs.Try.prog G103 := snd94b.add ⟨_, Go.Proofs.Try.func60, by kernel_rfl, by kernel_rfl⟩ (by
  intro args ins out h hp
  unfold sp103 at h
  split at h
  · rename_i n l
    cases h
    exact vcFun_ok (C := C103) good snd94b methOk18 mix Go.Proofs.Try.func60 (ann103 n l) (fun hw => by rw [← vc103 n l]; exact pure103 n l hp)
  · cases h)

end Go.SL.A

/- Give: plain functions. -/
namespace Go.SL.S
open Go Go.SL
def badF (x : Int) : Bool := decide (x < 0) || decide (15 < x)
def rightF (s : List Int) : Bool := !s.any badF
def costF : List Int := (List.range 13).map fun k : Nat => bitsF (k : Int)
def sumC : List Int → Int
  | [] => 0
  | x :: l => bitsF x + sumC l
def giveB (size : Int) : Int := if size < 12 ∨ 24 < size then 0 else 8 * size - 64
def z8 : List Int := [0, 0, 0, 0, 0, 0, 0, 0]
/-- What one pulse more costs. -/
def moreF (k : Int) : Int := costF.getD (k + 1).toNat 0 - costF.getD k.toNat 0

abbrev GS : Type := List (Int × Int) × List Int × Int
def pushQ (s : List Int) : Nat → List (Int × Int)
  | 0 => []
  | i + 1 => pushL ltQ qz (pushQ s i) ((i : Int), s.getD i 0)
def noMore (n bits : Int) : Bool := decide (12 ≤ n) || decide (bits < moreF n)
def giveStep (x : GS) : GS :=
  let t := x.1.getD 0 qz
  let n := x.2.1.getD t.1.toNat 0
  if noMore n x.2.2 then (popL ltQ qz x.1, x.2.1, x.2.2) else (pushL ltQ qz (popL ltQ qz x.1) (t.1, t.2 - 1), x.2.1.set t.1.toNat (n + 1), x.2.2 - moreF n)
def sumK : List Int → Int
  | [] => 0
  | x :: l => x + sumK l
def giveMu (x : GS) : Nat := x.1.length + 2 * (96 - sumK x.2.1).toNat
def giveRun : Nat → GS → GS
  | 0, x => x
  | f + 1, x => match x.1 with
    | [] => x
    | _ => giveRun f (giveStep x)
def giveF (s : List Int) (bits : Int) : List Int := (giveRun 200 (pushQ s 8, z8, bits)).2.1
def giveE (s : List Int) (bits : Int) : Int := if rightF s = false ∨ bits < 0 ∨ 1048576 < bits then 1 else 0
def giveV (s : List Int) (bits : Int) : List Int := if giveE s bits = 0 then giveF s bits else z8

def bestTo (s k : List Int) (bits : Int) : Nat → Int
  | 0 => -1
  | b + 1 => if k.getD b 0 < 12 ∧ moreF (k.getD b 0) ≤ bits ∧ (bestTo s k bits b < 0 ∨ s.getD (bestTo s k bits b).toNat 0 - k.getD (bestTo s k bits b).toNat 0 < s.getD b 0 - k.getD b 0) then (b : Int) else bestTo s k bits b
def refRun (s : List Int) : Nat → List Int × Int → List Int
  | 0, x => x.1
  | f + 1, x => if bestTo s x.1 x.2 8 < 0 then x.1 else
      refRun s f (x.1.set (bestTo s x.1 x.2 8).toNat (x.1.getD (bestTo s x.1 x.2 8).toNat 0 + 1), x.2 - moreF (x.1.getD (bestTo s x.1 x.2 8).toNat 0))
def refF (s : List Int) (bits : Int) : List Int := refRun s 100 (z8, bits)
def held8 (s : List Int) : List Int := s.map fun x => iand .i64 x 15
end Go.SL.S

/- Functions and what they are held to do: bound to their code. -/
namespace Go.SL.A
open Go Go.SL Go.SL.S
set_option maxRecDepth 100000
noncomputable def C131 : Ctx := ⟨Go.Proofs.Try.prog, D, G103, meth18, fun _ => []⟩
def ann131 (_x : Int) : Nat → St → Option Ann := fun _ _ => none
def out131 (x : Int) : COut := ⟨[], .v .bool (badF x), [], []⟩
def sp131 : Spec := fun args ins => match args, ins with
  | [⟨.int .i64, x⟩], [] => some (out131 x)
  | _, _ => none
def G131 := addG G103 55 sp131
def P131 (x : Int) : Prop :=
  ∀ (b : Bool), decide (x < (0 : Int)) = b → (((!b) = true → (!b) = true) ∧ (b = false → (!b) = true)) ∧ (bif b then true else decide ((15 : Int) < x)) = badF x
theorem vc131 (x : Int) : P131 x = vcFun C131 (ann131 x) Go.Proofs.Try.f55 [⟨.int .i64, x⟩] [] (out131 x) := by kernel_rfl

noncomputable def C90b : Ctx := ⟨Go.Proofs.Try.prog, D, G131, meth18, fun _ => []⟩
def ann90b (s : List Int) : Nat → St → Option Ann := fun _ _ => some ⟨Nat, [0, 1, 7], [0], fun i => [(8, .v (.int .i64) (i : Int))], fun _ => [], fun i => i ≤ 8 ∧ findIx badF s 0 = findIx badF (s.drop i) i, fun i => 8 - i⟩
def out90b (s : List Int) : COut := ⟨[], .v (.int .i64) (findIx badF s 0), [], []⟩
def sp90b : Spec := fun args ins => match args, ins with
  | [⟨.ref .slice, .slice 0 (.arr 8 (.int .i64)) [0] 0 8⟩, ⟨.ref .func, .func (.func 55) [] []⟩], [⟨false, true, .arr 8 (.int .i64), [s]⟩] => some (out90b s)
  | _, _ => none
def G90b := addM G131 64 sp90b
def P90b (s : List Int) : Prop :=
  ∃ (x : Nat), (((0 : Nat) = (0 : Nat) ∧ (0 : Nat) = (0 : Nat) ∧ (8 : Nat) = (8 : Nat) ∧ (↑(8 : Nat) : Int) = (↑(8 : Nat) : Int) ∧ (0 : Int) = (↑x : Int) ∧ s = s ∧ false = false) ∧ x ≤ (8 : Nat) ∧ findIx badF s (0 : Nat) =
  findIx badF (List.drop x s) x) ∧ ∀ (x : Nat), x ≤ (8 : Nat) ∧ findIx badF s (0 : Nat) = findIx badF (List.drop x s) x → IntKind.min IntKind.i64 ≤ (↑x : Int) ∧ (↑x : Int) ≤ IntKind.max IntKind.i64 → bif decide ((↑x : Int)
  < (↑(8 : Nat) : Int)) then (((0 : Int) ≤ (↑x : Int) ∧ (↑x : Int) < (↑(8 : Nat) : Int)) ∧ (0 : Nat) + Int.toNat (↑x : Int) < (8 : Nat)) ∧ bif badF (List.getD s ((0 : Nat) + Int.toNat (↑x : Int)) (0 : Int)) then (↑x : Int)
  = findIx badF s (0 : Nat) ∧ s = s ∧ false = false else ∃ (y : Nat), ((0 : Nat) = (0 : Nat) ∧ (0 : Nat) = (0 : Nat) ∧ (8 : Nat) = (8 : Nat) ∧ (↑(8 : Nat) : Int) = (↑(8 : Nat) : Int) ∧ IntKind.wrap IntKind.i64 ((↑x : Int) +
  (1 : Int)) = (↑y : Int) ∧ s = s ∧ false = false) ∧ (y ≤ (8 : Nat) ∧ findIx badF s (0 : Nat) = findIx badF (List.drop y s) y) ∧ (8 : Nat) - y < (8 : Nat) - x else (-1 : Int) = findIx badF s (0 : Nat) ∧ s = s ∧ false =
  false
theorem vc90b (s : List Int) : P90b s = vcFun C90b (ann90b s) Go.Proofs.Try.f64 [⟨.ref .slice, .slice 0 (.arr 8 (.int .i64)) [0] 0 8⟩, ⟨.ref .func, .func (.func 55) [] []⟩] [⟨false, true, .arr 8 (.int .i64), [s]⟩] (out90b s) := by kernel_rfl

noncomputable def C130 : Ctx := ⟨Go.Proofs.Try.prog, D, G90b, meth18, fun _ => []⟩
def ann130 (_s : List Int) : Nat → St → Option Ann := fun _ _ => none
def out130 (s : List Int) : COut := ⟨[], .v .bool (s.any badF), [], []⟩
def sp130 : Spec := fun args ins => match args, ins with
  | [⟨.ref .slice, .slice 0 (.arr 8 (.int .i64)) [0] 0 8⟩, ⟨.ref .func, .func (.func 55) [] []⟩], [⟨false, true, .arr 8 (.int .i64), [s]⟩] => some (out130 s)
  | _, _ => none
def G130 := addG G90b 54 sp130
def P130 (s : List Int) : Prop :=
  decide ((0 : Int) ≤ findIx badF s (0 : Nat)) = List.any s badF ∧ s = s ∧ false = false
theorem vc130 (s : List Int) : P130 s = vcFun C130 (ann130 s) Go.Proofs.Try.f54 [⟨.ref .slice, .slice 0 (.arr 8 (.int .i64)) [0] 0 8⟩, ⟨.ref .func, .func (.func 55) [] []⟩] [⟨false, true, .arr 8 (.int .i64), [s]⟩] (out130 s) := by kernel_rfl

noncomputable def C99 : Ctx := ⟨Go.Proofs.Try.prog, D, G130, meth18, fun _ => []⟩
def ann99 (_s : List Int) : Nat → St → Option Ann := fun _ _ => none
def out99 (s : List Int) : COut := ⟨[], .v .bool (rightF s), [], []⟩
def sp99 : Spec := fun args ins => match args, ins with
  | [⟨.arr 8 (.int .i64), s⟩], [] => some (out99 s)
  | _, _ => none
def G99 := addG G130 28 sp99
def P99 (s : List Int) : Prop :=
  (8 : Nat) ≤ (9223372036854775807 : Nat) ∧ (!List.any s badF) = rightF s
theorem vc99 (s : List Int) : P99 s = vcFun C99 (ann99 s) Go.Proofs.Try.f28 [⟨.arr 8 (.int .i64), s⟩] [] (out99 s) := by kernel_rfl

noncomputable def C100 : Ctx := ⟨Go.Proofs.Try.prog, D, G99, meth18, fun _ => []⟩
def ann100  : Nat → St → Option Ann := fun _ _ => some ⟨Nat, [0, 1], [0], fun i => [(3, .v (.int .i64) (i : Int))], fun i => [(1, some ⟨false, true, .arr 13 (.int .i64), [costF.take i ++ (List.replicate 13 0).drop i]⟩)], fun i => i ≤ 13, fun i => 13 - i⟩
def out100  : COut := ⟨[], .v (.arr 13 (.int .i64)) costF, [], []⟩
def sp100 : Spec := fun args ins => match args, ins with
  | [], [] => some out100
  | _, _ => none
def G100 := addG G99 56 sp100
def P100  : Prop :=
  ∃ (x : Nat), (((0 : Nat) = (0 : Nat) ∧ (0 : Nat) = (0 : Nat) ∧ (0 : Int) = (↑x : Int) ∧ (0 : Int) :: List.replicate (nat_lit 12) (0 : Int) = List.replicate (13 : Nat) (0 : Int) ∧ false = false ∧ (0 : Int) ::
  List.replicate (nat_lit 12) (0 : Int) = List.take x costF ++ List.drop x (List.replicate (13 : Nat) (0 : Int)) ∧ false = false) ∧ x ≤ (13 : Nat)) ∧ ∀ (x : Nat), x ≤ (13 : Nat) → (IntKind.min IntKind.i64 ≤ (↑x : Int) ∧ (↑x
  : Int) ≤ IntKind.max IntKind.i64 ∧ ∀ (y : List Int), List.Mem y [List.take x costF ++ List.drop x (List.replicate (13 : Nat) (0 : Int))] → List.length y = (13 : Nat) ∧ ∀ (y_1 : Int), List.Mem y_1 y → IntKind.min
  IntKind.i64 ≤ y_1 ∧ y_1 ≤ IntKind.max IntKind.i64) → bif decide ((↑x : Int) < (13 : Int)) then (((0 : Int) ≤ (↑x : Int) ∧ (↑x : Int) < (↑(13 : Nat) : Int)) ∧ Int.toNat (↑x : Int) < (13 : Nat)) ∧ ∃ (y : Nat), ((0 : Nat) =
  (0 : Nat) ∧ (0 : Nat) = (0 : Nat) ∧ IntKind.wrap IntKind.i64 ((↑x : Int) + (1 : Int)) = (↑y : Int) ∧ (0 : Int) :: List.replicate (nat_lit 12) (0 : Int) = List.replicate (13 : Nat) (0 : Int) ∧ false = false ∧ List.set
  (List.take x costF ++ List.drop x (List.replicate (13 : Nat) (0 : Int))) (Int.toNat (↑x : Int)) (bitsF (↑x : Int)) = List.take y costF ++ List.drop y (List.replicate (13 : Nat) (0 : Int)) ∧ false = false) ∧ y ≤ (13 : Nat)
  ∧ (13 : Nat) - y < (13 : Nat) - x else List.append (List.take x costF) (List.drop x (List.replicate (13 : Nat) (0 : Int))) = costF
theorem vc100 : P100  = vcFun C100 (ann100 ) Go.Proofs.Try.f56 [] [] out100 := by kernel_rfl

noncomputable def C59 : Ctx := ⟨Go.Proofs.Try.prog, D, G100, meth18, fun _ => []⟩
def ann59 (_s : Int) : Nat → St → Option Ann := fun _ _ => none
def out59 (s : Int) : COut := ⟨[], .v (.int .i64) (giveB s), [], []⟩
def sp59 : Spec := fun args ins => match args, ins with
  | [⟨.int .i64, s⟩], [] => some (out59 s)
  | _, _ => none
def G59 := addG G100 20 sp59
def P59 (s : Int) : Prop :=
  ∀ (b : Bool), decide (s < (12 : Int)) = b → (((!b) = true → (!b) = true) ∧ (b = false → (!b) = true)) ∧ bif bif b then true else decide ((24 : Int) < s) then (0 : Int) = giveB s else IntKind.wrap IntKind.i64 (IntKind.wrap
  IntKind.i64 ((8 : Int) * s) - (64 : Int)) = giveB s
theorem vc59 (s : Int) : P59 s = vcFun C59 (ann59 s) Go.Proofs.Try.f20 [⟨.int .i64, s⟩] [] (out59 s) := by kernel_rfl

noncomputable def C60 : Ctx := ⟨Go.Proofs.Try.prog, D, G59, meth18, fun _ => []⟩
def ann60 (s : List Int) : Nat → St → Option Ann := fun _ _ => some ⟨Nat, [1], [0], fun i => [(3, .v (.int .i64) (i : Int))], fun _ => [], fun i => i ≤ 8 ∧ (s.take i).any badF = false, fun i => 8 - i⟩
def out60 (s : List Int) : COut := ⟨[], .v .bool (rightF s), [], []⟩
def sp60 : Spec := fun args ins => match args, ins with
  | [⟨.arr 8 (.int .i64), s⟩], [] => some (out60 s)
  | _, _ => none
def G60 := addG G59 17 sp60
def P60 (s : List Int) : Prop :=
  ∃ (x : Nat), (((0 : Nat) = (0 : Nat) ∧ (0 : Int) = (↑x : Int) ∧ s = s ∧ false = false) ∧ x ≤ (8 : Nat) ∧ List.any (List.take x s) badF = false) ∧ ∀ (x : Nat), x ≤ (8 : Nat) ∧ List.any (List.take x s) badF = false →
  IntKind.min IntKind.i64 ≤ (↑x : Int) ∧ (↑x : Int) ≤ IntKind.max IntKind.i64 → bif decide ((↑x : Int) < (8 : Int)) then ∀ (b : Bool), decide (List.getD s (Int.toNat (↑x : Int)) (0 : Int) < (0 : Int)) = b → (((0 : Int) ≤
  (↑x : Int) ∧ (↑x : Int) < (↑(8 : Nat) : Int)) ∧ Int.toNat (↑x : Int) < (8 : Nat) ∧ ((!b) = true → (!b) = true ∧ (0 : Int) ≤ (↑x : Int) ∧ (↑x : Int) < (↑(8 : Nat) : Int)) ∧ ((!b) = true → (!b) = true ∧ Int.toNat (↑x : Int)
  < (8 : Nat)) ∧ ((!b) = true → (!b) = true) ∧ (b = false → (!b) = true)) ∧ bif bif b then true else decide ((15 : Int) < List.getD s (Int.toNat (↑x : Int)) (0 : Int)) then false = rightF s else ∃ (y : Nat), ((0 : Nat) = (0
  : Nat) ∧ IntKind.wrap IntKind.i64 ((↑x : Int) + (1 : Int)) = (↑y : Int) ∧ s = s ∧ false = false) ∧ (y ≤ (8 : Nat) ∧ List.any (List.take y s) badF = false) ∧ (8 : Nat) - y < (8 : Nat) - x else true = rightF s
theorem vc60 (s : List Int) : P60 s = vcFun C60 (ann60 s) Go.Proofs.Try.f17 [⟨.arr 8 (.int .i64), s⟩] [] (out60 s) := by kernel_rfl

noncomputable def C61 : Ctx := ⟨Go.Proofs.Try.prog, D, G60, meth18, fun _ => []⟩
def ann61 (k : Int) : Nat → St → Option Ann := fun _ _ => some ⟨Nat × Int, [], [], fun x => [(3, .v (.int .i64) (x.1 : Int)), (4, .v (.int .i64) x.2)], fun _ => [], fun x => x.1 + bitLen x.2.toNat = bitLen (countF 4 k - 1).toNat ∧ x.2 ≤ 10000000000, fun x => x.2.toNat⟩
def out61 (k : Int) : COut := ⟨[0 ≤ k ∧ k ≤ 12], .v (.int .i64) (bitsF k), [], []⟩
def sp61 : Spec := fun args ins => match args, ins with
  | [⟨.int .i64, k⟩], [] => some (out61 k)
  | _, _ => none
def G61 := addG G60 32 sp61
def P61 (k : Int) : Prop :=
  ((0 : Int) ≤ (4 : Int) ∧ (4 : Int) ≤ (8 : Int) ∧ (0 : Int) ≤ k ∧ k ≤ (12 : Int)) ∧ ∃ (x : Nat × Int), (((0 : Int) = (↑(Prod.fst x) : Int) ∧ IntKind.wrap IntKind.i64 (cnt (4 : Nat) (Int.toNat k) - (1 : Int)) = Prod.snd x)
  ∧ Prod.fst x + bitLen (Int.toNat (Prod.snd x)) = bitLen (Int.toNat (countF (4 : Int) k - (1 : Int))) ∧ Prod.snd x ≤ (10000000000 : Int)) ∧ ∀ (x : Nat × Int), Prod.fst x + bitLen (Int.toNat (Prod.snd x)) = bitLen
  (Int.toNat (countF (4 : Int) k - (1 : Int))) ∧ Prod.snd x ≤ (10000000000 : Int) → IntKind.min IntKind.i64 ≤ (↑(Prod.fst x) : Int) ∧ (↑(Prod.fst x) : Int) ≤ IntKind.max IntKind.i64 ∧ IntKind.min IntKind.i64 ≤ Prod.snd x ∧
  Prod.snd x ≤ IntKind.max IntKind.i64 → bif decide ((0 : Int) < Prod.snd x) then (2 : Int) ≠ (0 : Int) ∧ ∃ (y : Nat × Int), (IntKind.wrap IntKind.i64 ((↑(Prod.fst x) : Int) + (1 : Int)) = (↑(Prod.fst y) : Int) ∧
  IntKind.wrap IntKind.i64 (Int.tdiv (Prod.snd x) (2 : Int)) = Prod.snd y) ∧ (Prod.fst y + bitLen (Int.toNat (Prod.snd y)) = bitLen (Int.toNat (countF (4 : Int) k - (1 : Int))) ∧ Prod.snd y ≤ (10000000000 : Int)) ∧
  Int.toNat (Prod.snd y) < Int.toNat (Prod.snd x) else (↑(Prod.fst x) : Int) = bitsF k
theorem vc61 (k : Int) : P61 k = vcFun C61 (ann61 k) Go.Proofs.Try.f32 [⟨.int .i64, k⟩] [] (out61 k) := by kernel_rfl

end Go.SL.A

/- Give: small functions. -/
namespace Go.SL.A
open Go Go.SL Go.SL.S

theorem hw90b {s : List Int} (hw : Go.SL.allP (List.flatMap (fun a : AV => a.t.wf a.x) [⟨.ref .slice, .slice 0 (.arr 8 (.int .i64)) [0] 0 8⟩, ⟨.ref .func, .func (.func 131) [] []⟩] ++ List.flatMap Blk.wf [⟨false, true, .arr 8 (.int .i64), [s]⟩])) : s.length = 8 := by
  simp only [List.flatMap_cons, List.flatMap_nil, Ty.wf, Blk.wf, List.append_nil, List.nil_append, Go.SL.allP] at hw
  exact (hw s (by simp)).1
theorem hw58 {k : List Int} (hw : Go.SL.allP (List.flatMap (fun a : AV => a.t.wf a.x) [⟨.arr 8 (.int .i64), k⟩] ++ List.flatMap Blk.wf [])) : k.length = 8 := by
  simp only [List.flatMap_cons, List.flatMap_nil, Ty.wf, List.append_nil, Go.SL.allP] at hw
  exact hw.1

theorem pure131 (x : Int) : P131 x := by
  unfold P131
  intro b hb
  refine ⟨by cases b <;> simp, ?_⟩
  unfold badF; rw [hb]
  cases b <;> simp

theorem pure90b (s : List Int) (hl : s.length = 8) : P90b s := by
  unfold P90b
  simp only [eq_self, true_and, and_true, Int.toNat_natCast, Nat.zero_add]
  refine ⟨0, ⟨rfl, by omega, rfl⟩, fun i hi _ => ?_⟩
  obtain ⟨hi, he⟩ := hi
  by_cases h8 : (i : Int) < ((8 : Nat) : Int)
  · have his : i < s.length := by omega
    have ed : s.drop i = s.getD i 0 :: s.drop (i + 1) := by
      rw [List.drop_eq_getElem_cons his]; simp [his]
    rw [ed, findIx] at he
    simp only [h8, decide_true, cond_true]
    refine ⟨by simp; omega, ?_⟩
    cases hb : badF (s.getD i 0) with
    | true => rw [hb, if_pos rfl] at he; simp only [cond_true]; exact he.symm
    | false =>
      rw [hb, if_neg (by simp)] at he
      simp only [cond_false]
      exact ⟨i + 1, step_i (by omega), ⟨by omega, he⟩, by omega⟩
  · have : i = 8 := by omega
    subst this
    simp only [h8, decide_false, cond_false]
    rw [he, List.drop_eq_nil_of_le (by omega)]; rfl

theorem pure130 (s : List Int) (_hl : s.length = 8) : P130 s := by
  unfold P130
  simp only [eq_self, and_true]
  exact findIx_sign badF s 0

theorem pure99 (s : List Int) : P99 s := by
  unfold P99
  exact ⟨by decide, rfl⟩

theorem costF_at {i : Nat} (h : i < 13) : costF[i]? = some (bitsF (i : Int)) := by
  unfold costF
  rw [List.getElem?_map, List.getElem?_range h]; rfl

theorem costF_len : costF.length = 13 := by simp [costF]

theorem cost_end {i : Nat} (h : 13 ≤ i) : List.take i costF ++ List.drop i (List.replicate 13 (0 : Int)) = costF := by
  rw [List.take_of_length_le (by rw [costF_len]; exact h), List.drop_eq_nil_of_le (by simp; exact h), List.append_nil]

theorem pure100 : P100 := by
  unfold P100
  simp only [eq_self, true_and, and_true, Int.toNat_natCast]
  refine ⟨0, ⟨⟨rfl, rfl, rfl⟩, by omega⟩, fun i hi _ => ?_⟩
  by_cases h : (i : Int) < 13
  · simp only [h, decide_true, cond_true]
    exact ⟨⟨by omega, by omega⟩, i + 1, ⟨step_i (by omega), rfl, set_step (by rw [costF_len]; omega) (by simp; omega) (costF_at (by omega))⟩, by omega, by omega⟩
  · simp only [h, decide_false, cond_false]
    exact cost_end (by omega)

theorem bitsF_fits (k : Int) : 0 ≤ bitsF k ∧ bitsF k ≤ 10000000000 := by
  have hc := countF_fits 4 k
  have hb := bitLen_le (m := (countF 4 k - 1).toNat) (by omega)
  have hq : bitsF k = (bitLen (countF 4 k - 1).toNat : Nat) := rfl
  rw [hq]; omega

theorem sumC_append : ∀ p q : List Int, sumC (p ++ q) = sumC p + sumC q
  | [], q => by simp [sumC]
  | x :: p, q => by simp only [List.cons_append, sumC, sumC_append p q]; omega

theorem sumC_fits : ∀ l : List Int, 0 ≤ sumC l ∧ sumC l ≤ l.length * 10000000000
  | [] => by simp [sumC]
  | x :: l => by
    have := sumC_fits l
    have := bitsF_fits x
    simp only [sumC, List.length_cons]; omega

theorem pure59 (s : Int) : P59 s := by
  unfold P59
  intro b hb
  refine ⟨by cases b <;> simp, ?_⟩
  by_cases h1 : s < 12
  · have : b = true := by rw [← hb]; simp [h1]
    rw [this]
    unfold giveB
    rw [if_pos (Or.inl h1)]; rfl
  · have : b = false := by rw [← hb]; simp [h1]
    rw [this]
    by_cases h2 : 24 < s
    · have e : giveB s = 0 := by unfold giveB; rw [if_pos (Or.inr h2)]
      rw [e]
      simp [h2]
    · have e : giveB s = 8 * s - 64 := by unfold giveB; rw [if_neg (by omega)]
      rw [e]
      simp only [h2, decide_false, cond_false]
      rw [w64 (n := 8 * s) (by omega) (by omega), w64 (by omega) (by omega)]

theorem pure60 (s : List Int) (hl : s.length = 8) : P60 s := by
  unfold P60
  simp only [eq_self, true_and, and_true, Int.toNat_natCast]
  refine ⟨0, ⟨rfl, by omega, rfl⟩, fun i hi _ => ?_⟩
  obtain ⟨hi, hh⟩ := hi
  by_cases h8 : (i : Int) < 8
  · have his : i < s.length := by omega
    simp only [h8, decide_true, cond_true]
    intro b hb
    refine ⟨⟨by omega, by omega, by cases b <;> simp <;> omega⟩, ?_⟩
    have e : (bif b then true else decide (15 < s.getD i 0)) = badF (s.getD i 0) := by
      unfold badF; rw [hb]; cases b <;> simp
    rw [e]
    cases hbd : badF (s.getD i 0) with
    | true =>
      simp only [cond_true]
      unfold rightF
      rw [List.any_eq_true.2 ⟨s.getD i 0, getD_mem his, hbd⟩]; rfl
    | false =>
      simp only [cond_false]
      refine ⟨i + 1, step_i (by omega), ⟨by omega, ?_⟩, by omega⟩
      rw [take_snoc' 0 his, List.any_append, hh]
      simpa using hbd
  · have : i = 8 := by omega
    subst this
    simp only [h8, decide_false, cond_false]
    rw [List.take_of_length_le (by omega)] at hh
    unfold rightF; rw [hh]; rfl

theorem pure61 (k : Int) (hk : 0 ≤ k ∧ k ≤ 12) : P61 k := by
  unfold P61
  have hc : countF 4 k = cnt 4 k.toNat := by unfold countF; rw [if_pos (by simp [mayF]; omega)]; rfl
  have hq : bitsF k = (bitLen (countF 4 k - 1).toNat : Nat) := rfl
  rw [hq, hc]
  have hf := countF_fits 4 k
  rw [hc] at hf
  generalize cnt 4 k.toNat = c at *
  rw [w64 (n := c - 1) (by omega) (by omega)]
  refine ⟨by omega, (0, c - 1), ⟨⟨rfl, rfl⟩, by simp, by simp only; omega⟩, fun x hx _ => ?_⟩
  obtain ⟨m, l⟩ := x
  obtain ⟨h1, h2⟩ := hx
  simp only at h1 h2 ⊢
  have hb := bitLen_le (m := (c - 1).toNat) (by omega)
  by_cases h : 0 < l
  · simp only [h, decide_true, cond_true]
    have w1 : IntKind.i64.wrap ((m : Int) + 1) = ((m + 1 : Nat) : Int) := by rw [w64 (by omega) (by omega)]; simp
    have d := tdm l (k := 2) (by decide)
    have w2 : IntKind.i64.wrap (l.tdiv 2) = l / 2 := by
      generalize l.tdiv 2 = q at *
      generalize l.tmod 2 = r at *
      rw [w64 (by omega) (by omega)]; omega
    refine ⟨by decide, (m + 1, l / 2), ⟨w1, w2⟩, ⟨?_, by simp only; omega⟩, by simp only; omega⟩
    have := bitLen_half (m := l.toNat) (by omega)
    simp only
    rw [show (l / 2).toNat = l.toNat / 2 by omega]; omega
  · simp only [h, decide_false, cond_false]
    have e : bitLen l.toNat = 0 := by rw [show l.toNat = 0 by omega]; rfl
    omega

end Go.SL.A

/- Functions do what they are held to do. -/
namespace Go.SL.A
open Go Go.SL Go.SL.S
theorem snd131 : Sound Go.Proofs.Try.prog G131 := snd103.add ⟨_, Go.Proofs.Try.func55, by kernel_rfl, by kernel_rfl⟩ (by
  intro args ins out h hp
  unfold sp131 at h
  split at h
  · rename_i x
    cases h
    exact vcFun_ok (C := C131) good snd103 methOk18 mix Go.Proofs.Try.func55 (ann131 x) (fun hw => by rw [← vc131 x]; exact pure131 x)
  · cases h)

theorem snd90b : Sound Go.Proofs.Try.prog G90b := snd131.addM ⟨_, Go.Proofs.Try.func64, by kernel_rfl, by kernel_rfl⟩ (by
  intro args ins out h hp
  unfold sp90b at h
  split at h
  · rename_i s
    cases h
    exact vcFun_ok (C := C90b) good snd131 methOk18 mix Go.Proofs.Try.func64 (ann90b s) (fun hw => by rw [← vc90b s]; exact pure90b s (hw90b hw))
  · cases h)

theorem snd130 : Sound Go.Proofs.Try.prog G130 := snd90b.add ⟨_, Go.Proofs.Try.func54, by kernel_rfl, by kernel_rfl⟩ (by
  intro args ins out h hp
  unfold sp130 at h
  split at h
  · rename_i s
    cases h
    exact vcFun_ok (C := C130) good snd90b methOk18 mix Go.Proofs.Try.func54 (ann130 s) (fun hw => by rw [← vc130 s]; exact pure130 s (hw90b hw))
  · cases h)

theorem snd99 : Sound Go.Proofs.Try.prog G99 := snd130.add ⟨_, Go.Proofs.Try.func28, by kernel_rfl, by kernel_rfl⟩ (by
  intro args ins out h hp
  unfold sp99 at h
  split at h
  · rename_i s
    cases h
    exact vcFun_ok (C := C99) good snd130 methOk18 mix Go.Proofs.Try.func28 (ann99 s) (fun hw => by rw [← vc99 s]; exact pure99 s)
  · cases h)

theorem snd100 : Sound Go.Proofs.Try.prog G100 := snd99.add ⟨_, Go.Proofs.Try.func56, by kernel_rfl, by kernel_rfl⟩ (by
  intro args ins out h hp
  unfold sp100 at h
  split at h
  · cases h
    exact vcFun_ok (C := C100) good snd99 methOk18 mix Go.Proofs.Try.func56 (ann100 ) (fun hw => by rw [← vc100 ]; exact pure100)
  · cases h)

theorem snd59 : Sound Go.Proofs.Try.prog G59 := snd100.add ⟨_, Go.Proofs.Try.func20, by kernel_rfl, by kernel_rfl⟩ (by
  intro args ins out h hp
  unfold sp59 at h
  split at h
  · rename_i s
    cases h
    exact vcFun_ok (C := C59) good snd100 methOk18 mix Go.Proofs.Try.func20 (ann59 s) (fun hw => by rw [← vc59 s]; exact pure59 s)
  · cases h)

theorem snd60 : Sound Go.Proofs.Try.prog G60 := snd59.add ⟨_, Go.Proofs.Try.func17, by kernel_rfl, by kernel_rfl⟩ (by
  intro args ins out h hp
  unfold sp60 at h
  split at h
  · rename_i s
    cases h
    exact vcFun_ok (C := C60) good snd59 methOk18 mix Go.Proofs.Try.func17 (ann60 s) (fun hw => by rw [← vc60 s]; exact pure60 s (hw58 hw))
  · cases h)

theorem snd61 : Sound Go.Proofs.Try.prog G61 := snd60.add ⟨_, Go.Proofs.Try.func32, by kernel_rfl, by kernel_rfl⟩ (by
  intro args ins out h hp
  unfold sp61 at h
  split at h
  · rename_i k
    cases h
    exact vcFun_ok (C := C61) good snd60 methOk18 mix Go.Proofs.Try.func32 (ann61 k) (fun hw => by rw [← vc61 k]; exact pure61 k hp)
  · cases h)

end Go.SL.A

/- Functions and what they are held to do: bound to their code. -/
namespace Go.SL.A
open Go Go.SL Go.SL.S
set_option maxRecDepth 100000
end Go.SL.A

namespace Go.SL.A
open Go Go.SL Go.SL.S

theorem cnt_zero : ∀ n, cnt n 0 = 1
  | 0 => rfl
  | n + 1 => cnt_zero n

theorem countF_val {n k : Int} (h : 0 ≤ n ∧ n ≤ 8 ∧ 0 ≤ k ∧ k ≤ 12) : countF n k = cnt n.toNat k.toNat := by
  unfold countF; rw [may_iff.2 h]; rfl

theorem bitLen_mono {a b : Nat} (h : a ≤ b) : bitLen a ≤ bitLen b := by
  unfold bitLen
  split
  · omega
  · rename_i ha
    rw [if_neg (by omega)]
    have h1 := Nat.log2_self_le ha
    have h2 := (Nat.log2_lt (n := a) (k := b.log2 + 1) ha).2 (by have := Nat.lt_log2_self (n := b); omega)
    omega

theorem bitLen_pow (a : Nat) : a < 2 ^ bitLen a := by
  unfold bitLen
  split
  · rename_i h; subst h; decide
  · exact Nat.lt_log2_self

theorem bitLen_small {a : Nat} (h : a < 2 ^ 33) : bitLen a ≤ 33 := by
  unfold bitLen
  split
  · omega
  · rename_i ha; have := (Nat.log2_lt (n := a) (k := 33) ha).2 h; omega

theorem hw7 {n k : Int} (hw : allP (List.flatMap (fun a : AV => a.t.wf a.x) [⟨.int .u8, n⟩, ⟨.int .u8, k⟩] ++ List.flatMap Blk.wf [])) : (0 ≤ n ∧ n ≤ 255) ∧ 0 ≤ k ∧ k ≤ 255 := by
  simp only [List.flatMap_cons, List.flatMap_nil, Ty.wf, List.append_nil, List.cons_append, List.nil_append, allP] at hw
  exact ⟨⟨hw.1, hw.2.1⟩, hw.2.2.1, hw.2.2.2⟩

end Go.SL.A

/- More plain laws of vectors. -/
namespace Go.SL.A
open Go Go.SL Go.SL.S

theorem cnt_pos : ∀ n k, 1 ≤ cnt (n + 1) k
  | n, 0 => by rw [show cnt (n + 1) 0 = cnt n 0 from rfl, cnt_zero]; omega
  | n, k + 1 => by
    have := cnt_pos n k
    have := (cnt_le n k).1
    have := (cnt_le n (k + 1)).1
    rw [show cnt (n + 1) (k + 1) = cnt (n + 1) k + cnt n k + cnt n (k + 1) from rfl]; omega

theorem countF_zero {m q : Int} (h : 0 ≤ m ∧ m ≤ 8 ∧ 0 ≤ q ∧ q ≤ 12) (hz : countF m q = 0) : m = 0 ∧ 0 < q := by
  rw [countF_val h] at hz
  cases hm : m.toNat with
  | succ n => rw [hm] at hz; have := cnt_pos n q.toNat; omega
  | zero =>
    rw [hm] at hz
    cases hq : q.toNat with
    | zero => rw [hq] at hz; simp [cnt, cnt0] at hz
    | succ k => omega

theorem countF_up {m q : Int} (h : 0 ≤ m ∧ m ≤ 7 ∧ 0 ≤ q ∧ q ≤ 12) : countF m q ≤ countF (m + 1) q := by
  rw [countF_val (by omega), countF_val (by omega), show (m + 1).toNat = m.toNat + 1 by omega, cnt_sum]
  have := sumTo_nn (f := cnt m.toNat) (fun i => (cnt_le m.toNat i).1) q.toNat; omega

theorem vec_split {m q i : Int} (h : 0 ≤ m ∧ m ≤ 7 ∧ 0 ≤ q ∧ q ≤ 12) (hi : 0 ≤ i) (hi2 : i < countF m q) : vecF (m + 1) q i = 0 :: vecF m q i := by
  have hu := countF_up h
  have hc := countF_val (n := m) (k := q) (by omega)
  have e1 : vecF (m + 1) q i = (vst (m + 1).toNat q i (m + 1).toNat).2.2 := by unfold vecF; rw [if_pos ⟨may_iff.2 (by omega), hi, by omega⟩]
  have e2 : vecF m q i = (vst m.toNat q i m.toNat).2.2 := by unfold vecF; rw [if_pos ⟨may_iff.2 (by omega), hi, by omega⟩]
  have g0 : (numsF q.toNat).getD 0 0 = 0 := by rw [numsF_get (by omega)]; rfl
  have hl := numsF_len q.toNat
  have s1 := sumBy_take_succ m.toNat q.toNat (l := numsF q.toNat) (p := 0) (by omega)
  rw [g0, show (sz13 0).toNat = 0 by decide, List.take_zero, show sumBy m.toNat q.toNat [] = 0 from rfl, Nat.sub_zero] at s1
  have hf := vst_first (n := m.toNat) (k := q) (i := i) (by omega) (by omega) (p := 0) (by omega) (by rw [List.take_zero]; exact hi) (by omega)
  rw [g0, show sz13 0 = 0 by decide, List.take_zero, show sumBy m.toNat q.toNat [] = 0 from rfl, Int.sub_zero, Int.sub_zero] at hf
  rw [e1, e2, show (m + 1).toNat = m.toNat + 1 by omega, hf]

end Go.SL.A

/- Give: what is given; plain laws. -/
namespace Go.SL.S
open Go Go.SL

theorem pop_perm {α : Type} (lt : α → α → Bool) (d : α) {l : List α} (h : 0 < l.length) : (l.getD 0 d :: popL lt d l).Perm l := by
  have hs := swapL_perm d (l := l) (i := 0) (j := l.length - 1) h (by omega)
  have hd := downL_perm lt d (l.length - 1) (l.length - 1) (swapL d l 0 (l.length - 1)) 0 (by rw [swapL_len]; omega)
  have hk := downL_keep lt d (l.length - 1) (l.length - 1) (swapL d l 0 (l.length - 1)) 0 (by rw [swapL_len]; omega) (l.length - 1) (Nat.le_refl _)
  rw [swapL_getD d (by omega) (by omega), if_pos rfl] at hk
  have hl := downL_len lt d (l.length - 1) (l.length - 1) (swapL d l 0 (l.length - 1)) 0
  rw [swapL_len] at hl
  unfold popL
  generalize (downL lt d (l.length - 1) (l.length - 1) (swapL d l 0 (l.length - 1)) 0).1 = D at *
  have e : D = D.take (l.length - 1) ++ [l.getD 0 d] := by
    have : D.drop (l.length - 1) = [l.getD 0 d] := by
      rw [List.drop_eq_getElem_cons (by omega), List.drop_eq_nil_of_le (by omega)]
      rw [← hk, List.getD_eq_getElem?_getD, List.getElem?_eq_getElem (by omega)]; rfl
    rw [← this, List.take_append_drop]
  have p1 : (l.getD 0 d :: D.take (l.length - 1)).Perm (D.take (l.length - 1) ++ [l.getD 0 d]) := (List.perm_append_singleton _ _).symm
  rw [← e] at p1
  exact p1.trans (hd.trans hs)

theorem pop_len {α : Type} (lt : α → α → Bool) (d : α) {l : List α} (h : 0 < l.length) : (popL lt d l).length = l.length - 1 := by
  have := (pop_perm lt d h).length_eq
  simp only [List.length_cons] at this; omega

theorem pop_hp {α : Type} {lt : α → α → Bool} (o : Ord lt) (d : α) {l : List α} (h0 : 0 < l.length) (h : Hp lt d l l.length) : Hp lt d (popL lt d l) (popL lt d l).length := by
  rw [pop_len lt d h0]
  have hs := swapL_getD d (l := l) (i := 0) (j := l.length - 1) h0 (by omega)
  have hd := down_hp o d (n := l.length - 1) (l.length - 1) (swapL d l 0 (l.length - 1)) 0 (by omega) (by rw [swapL_len]; omega) (fun k hk0 hk hkp => by
    rw [hs, hs, if_neg (by omega), if_neg (by omega), if_neg (by omega), if_neg (by omega)]
    exact h k hk0 (by omega)) (fun k hk0 hk hkp hp => by omega)
  intro k hk0 hk
  have hg : ∀ j, j < l.length - 1 → (popL lt d l).getD j d = (downL lt d (l.length - 1) (l.length - 1) (swapL d l 0 (l.length - 1)) 0).1.getD j d := by
    intro j hj
    unfold popL
    rw [List.getD_eq_getElem?_getD, List.getD_eq_getElem?_getD, List.getElem?_take, if_pos hj]
  rw [hg k hk, hg _ (by omega)]
  exact hd k hk0 hk

theorem more_vals : (List.range 12).map (fun k : Nat => moreF (k : Int)) = [3, 2, 2, 1, 1, 1, 0, 1, 0, 1, 0, 1] := by decide +kernel

theorem more_nn {k : Int} (h0 : 0 ≤ k) (h : k < 12) : 0 ≤ moreF k ∧ moreF k ≤ 3 := by
  have e : moreF k = ((List.range 12).map (fun k : Nat => moreF (k : Int))).getD k.toNat 0 := by
    rw [List.getD_eq_getElem?_getD, List.getElem?_map, List.getElem?_range (by omega)]
    simp [Int.toNat_of_nonneg h0]
  rw [more_vals] at e
  have : k.toNat = 0 ∨ k.toNat = 1 ∨ k.toNat = 2 ∨ k.toNat = 3 ∨ k.toNat = 4 ∨ k.toNat = 5 ∨ k.toNat = 6 ∨ k.toNat = 7 ∨ k.toNat = 8 ∨ k.toNat = 9 ∨ k.toNat = 10 ∨ k.toNat = 11 := by omega
  rw [e]
  rcases this with h | h | h | h | h | h | h | h | h | h | h | h <;> rw [h] <;> decide

theorem more_bits {k : Int} (h0 : 0 ≤ k) (h : k < 12) : moreF k = bitsF (k + 1) - bitsF k := by
  unfold moreF costF
  simp only [List.getD_eq_getElem?_getD, List.getElem?_map]
  rw [List.getElem?_range (by omega), List.getElem?_range (by omega)]
  simp only [Option.map_some, Option.getD_some]
  rw [Int.toNat_of_nonneg (by omega), Int.toNat_of_nonneg h0]

theorem sumC_set : ∀ (l : List Int) (b : Nat) (v : Int), b < l.length → sumC (l.set b v) = sumC l + bitsF v - bitsF (l.getD b 0)
  | [], b, v, h => by simp at h
  | x :: l, 0, v, _ => by simp [sumC]; omega
  | x :: l, b + 1, v, h => by
    simp only [List.set_cons_succ, sumC, List.getD_cons_succ]
    rw [sumC_set l b v (by simpa using h)]; omega

theorem sumK_set : ∀ (l : List Int) (b : Nat) (v : Int), b < l.length → sumK (l.set b v) = sumK l + v - l.getD b 0
  | [], b, v, h => by simp at h
  | x :: l, 0, v, _ => by simp [sumK]; omega
  | x :: l, b + 1, v, h => by
    simp only [List.set_cons_succ, sumK, List.getD_cons_succ]
    rw [sumK_set l b v (by simpa using h)]; omega

theorem sumK_le : ∀ (l : List Int), (∀ b, b < l.length → l.getD b 0 ≤ 12) → sumK l ≤ 12 * l.length
  | [], _ => by simp [sumK]
  | x :: l, h => by
    have h1 := h 0 (by simp)
    have h2 := sumK_le l (fun b hb => by have := h (b + 1) (by simpa using hb); simpa using this)
    simp only [List.getD_cons_zero] at h1
    simp only [sumK, List.length_cons]; omega

theorem set_at (l : List Int) (b c : Nat) (v : Int) (h : b < l.length) : (l.set b v).getD c 0 = if c = b then v else l.getD c 0 := by
  simp only [List.getD_eq_getElem?_getD, List.getElem?_set]
  by_cases e : b = c
  · subst e; simp [h]
  · rw [if_neg e, if_neg (fun h => e h.symm)]

theorem sumC_z8 : sumC z8 = 0 := by decide +kernel

structure GI (s : List Int) (B : Int) (x : GS) : Prop where
  klen : x.2.1.length = 8
  kr : ∀ b, b < 8 → 0 ≤ x.2.1.getD b 0 ∧ x.2.1.getD b 0 ≤ 12
  b0 : 0 ≤ x.2.2
  sum : x.2.2 + sumC x.2.1 = B
  mem : ∀ w ∈ x.1, ∃ b : Nat, b < 8 ∧ w = ((b : Int), s.getD b 0 - x.2.1.getD b 0)
  nd : (x.1.map (·.1)).Nodup
  hp : Hp ltQ qz x.1 x.1.length
  len : x.1.length ≤ 8
  out : ∀ b : Nat, b < 8 → (∀ w ∈ x.1, w.1 ≠ (b : Int)) → noMore (x.2.1.getD b 0) x.2.2 = true

theorem GI.top {s : List Int} {B : Int} {x : GS} (h : GI s B x) (h0 : 0 < x.1.length) : ∃ b : Nat, b < 8 ∧ x.1.getD 0 qz = ((b : Int), s.getD b 0 - x.2.1.getD b 0) ∧
    (∀ w ∈ x.1, ltQ w (x.1.getD 0 qz) = false) ∧ (∀ w ∈ popL ltQ qz x.1, w ∈ x.1 ∧ w.1 ≠ (b : Int)) ∧ (∀ w ∈ x.1, w.1 ≠ (b : Int) → w ∈ popL ltQ qz x.1) ∧ ((popL ltQ qz x.1).map (·.1)).Nodup := by
  obtain ⟨b, hb, e⟩ := h.mem _ (show x.1.getD 0 qz ∈ x.1 by rw [List.getD_eq_getElem?_getD, List.getElem?_eq_getElem h0]; simp)
  have hp := pop_perm ltQ qz h0
  have hnd : ((x.1.getD 0 qz :: popL ltQ qz x.1).map (·.1)).Nodup := (hp.map _).nodup_iff.2 h.nd
  rw [List.map_cons, List.nodup_cons] at hnd
  refine ⟨b, hb, e, fun w hw => ?_, fun w hw => ⟨hp.subset (List.mem_cons_of_mem _ hw), fun hwb => ?_⟩, fun w hw hwb => ?_, hnd.2⟩
  · obtain ⟨k, hk, rfl⟩ := List.mem_iff_getElem.1 hw
    have := h.hp.first ltQ_ord k hk
    rw [List.getD_eq_getElem?_getD, List.getElem?_eq_getElem hk] at this
    exact this
  · apply hnd.1
    rw [e]
    exact List.mem_map.2 ⟨w, hw, hwb⟩
  · have hw := hp.symm.subset hw
    rcases List.mem_cons.1 hw with hw | hw
    · exfalso; apply hwb; rw [hw, e]
    · exact hw

theorem noMore_less {n a b : Int} (h : noMore n a = true) (hab : b ≤ a) : noMore n b = true := by
  unfold noMore at *
  simp only [Bool.or_eq_true, decide_eq_true_eq] at *
  omega

theorem GI.step {s : List Int} {B : Int} {x : GS} (h : GI s B x) (h0 : 0 < x.1.length) : GI s B (giveStep x) ∧ giveMu (giveStep x) < giveMu x := by
  obtain ⟨b, hb, e, hmin, hpop, hin, hnd⟩ := h.top h0
  have hpl := pop_len ltQ qz h0
  have hkr := h.kr b hb
  have hbl : b < x.2.1.length := by rw [h.klen]; exact hb
  have hsl := sumK_le x.2.1 (fun c hc => (h.kr c (by rw [← h.klen]; exact hc)).2)
  rw [h.klen] at hsl
  unfold giveStep giveMu
  simp only [e, Int.toNat_natCast]
  cases hn : noMore (x.2.1.getD b 0) x.2.2 with
  | true =>
    rw [if_pos rfl]
    refine ⟨⟨h.klen, h.kr, h.b0, h.sum, fun w hw => h.mem w (hpop w hw).1, hnd, pop_hp ltQ_ord qz h0 h.hp, by simp only [hpl]; have := h.len; omega, fun c hc hcw => ?_⟩, by simp only [hpl]; omega⟩
    by_cases ecb : c = b
    · subst ecb; exact hn
    · refine h.out c hc fun w hw hwc => ?_
      exact hcw w (hin w hw (by rw [hwc]; omega)) hwc
  | false =>
    rw [if_neg (by simp)]
    have hn' : x.2.1.getD b 0 < 12 ∧ moreF (x.2.1.getD b 0) ≤ x.2.2 := by
      unfold noMore at hn
      simp only [Bool.or_eq_false_iff, decide_eq_false_iff_not] at hn
      omega
    have hm := more_nn hkr.1 hn'.1
    have hmb := more_bits hkr.1 hn'.1
    have hset := set_at x.2.1 b
    have hpu := pushL_perm ltQ qz (popL ltQ qz x.1) ((b : Int), s.getD b 0 - x.2.1.getD b 0 - 1)
    refine ⟨⟨by simp only [List.length_set]; exact h.klen, fun c hc => ?_, by simp only; omega, ?_, fun w hw => ?_, ?_, ?_, by simp only [pushL_len, hpl]; have := h.len; omega, fun c hc hcw => ?_⟩, ?_⟩
    · simp only [hset c _ hbl]
      split
      · omega
      · exact h.kr c hc
    · simp only [sumC_set _ _ _ hbl]
      have := h.sum; omega
    · rcases List.mem_append.1 (hpu.subset hw) with hw | hw
      · obtain ⟨hw1, hw2⟩ := hpop w hw
        obtain ⟨c, hc, rfl⟩ := h.mem w hw1
        refine ⟨c, hc, ?_⟩
        have : c ≠ b := fun e => hw2 (by rw [e])
        simp only [hset c _ hbl, if_neg this]
      · rw [List.mem_singleton.1 hw]
        refine ⟨b, hb, ?_⟩
        simp only [hset b _ hbl, if_true]
        congr 1; omega
    · refine (hpu.map _).nodup_iff.2 ?_
      rw [List.map_append, List.nodup_append]
      refine ⟨hnd, by simp, fun c hc d hd => ?_⟩
      obtain ⟨w, hw, rfl⟩ := List.mem_map.1 hc
      simp only [List.map_cons, List.map_nil, List.mem_singleton] at hd
      rw [hd]; exact (hpop w hw).2
    · have := push_hp ltQ_ord qz ((b : Int), s.getD b 0 - x.2.1.getD b 0 - 1) (pop_hp ltQ_ord qz h0 h.hp)
      simp only [pushL_len]; exact this
    · have ecb : c ≠ b := fun e => hcw _ (hpu.symm.subset (List.mem_append_right _ (List.mem_singleton_self _))) (by rw [e])
      simp only [hset c _ hbl, if_neg ecb]
      refine noMore_less (h.out c hc fun w hw hwc => ?_) (show x.2.2 - moreF (x.2.1.getD b 0) ≤ x.2.2 by omega)
      exact hcw w (hpu.symm.subset (List.mem_append_left _ (hin w hw (by rw [hwc]; omega)))) hwc
    · simp only [pushL_len, hpl, sumK_set _ _ _ hbl]
      have e9 : sumK x.2.1 + (x.2.1.getD b 0 + 1) - x.2.1.getD b 0 = sumK x.2.1 + 1 := by omega
      rw [e9]
      have key : ∀ (m : Nat) (q : Int), 0 < m → q + 1 ≤ 96 → m - 1 + 1 + 2 * (96 - (q + 1)).toNat < m + 2 * (96 - q).toNat := by intro m q h1 h2; omega
      refine key _ _ h0 ?_
      have hs2 := sumK_le (x.2.1.set b (x.2.1.getD b 0 + 1)) (fun c hc => by
        rw [hset c _ hbl]
        split
        · omega
        · exact (h.kr c (by rw [List.length_set, h.klen] at hc; exact hc)).2)
      rw [List.length_set, h.klen, sumK_set _ _ _ hbl] at hs2
      omega

theorem giveRun_nil (f : Nat) (x : GS) (h : x.1 = []) : giveRun f x = x := by
  cases f with
  | zero => rfl
  | succ f => rw [giveRun, h]

theorem giveRun_step {f : Nat} {x : GS} (h : 0 < x.1.length) : giveRun (f + 1) x = giveRun f (giveStep x) := by
  rw [giveRun]
  cases hx : x.1 with
  | nil => rw [hx] at h; simp at h
  | cons a l => rfl

theorem giveRun_fuel {s : List Int} {B : Int} : ∀ (f : Nat) (x : GS), GI s B x → giveMu x ≤ f → giveRun f x = giveRun (giveMu x) x ∧ GI s B (giveRun f x) ∧ (giveRun f x).1 = [] := by
  intro f
  induction f using Nat.strongRecOn with
  | ind f ih =>
    intro x h hf
    by_cases h0 : 0 < x.1.length
    · obtain ⟨h1, h2⟩ := h.step h0
      obtain ⟨f, rfl⟩ : ∃ g, f = g + 1 := ⟨f - 1, by omega⟩
      obtain ⟨m, hm⟩ : ∃ m, giveMu x = m + 1 := ⟨giveMu x - 1, by omega⟩
      rw [giveRun_step h0, hm, giveRun_step h0]
      obtain ⟨i1, i2, i3⟩ := ih f (by omega) _ h1 (by omega)
      refine ⟨?_, i2, i3⟩
      by_cases hmf : m = f
      · rw [hmf]
      · rw [i1, (ih m (by omega) _ h1 (by omega)).1]
    · have hx : x.1 = [] := List.eq_nil_of_length_eq_zero (by omega)
      rw [giveRun_nil f x hx, giveRun_nil _ x hx]
      exact ⟨rfl, h, hx⟩

theorem pushQ_len (s : List Int) : ∀ k, (pushQ s k).length = k
  | 0 => rfl
  | k + 1 => by rw [pushQ, pushL_len, pushQ_len s k]

theorem pushQ_mem (s : List Int) : ∀ k w, w ∈ pushQ s k ↔ ∃ b : Nat, b < k ∧ w = ((b : Int), s.getD b 0)
  | 0, w => by simp [pushQ]
  | k + 1, w => by
    rw [pushQ, (pushL_perm ltQ qz _ _).mem_iff, List.mem_append, pushQ_mem s k w, List.mem_singleton]
    constructor
    · rintro (⟨b, hb, e⟩ | e)
      · exact ⟨b, by omega, e⟩
      · exact ⟨k, by omega, e⟩
    · rintro ⟨b, hb, e⟩
      by_cases h : b = k
      · subst h; exact .inr e
      · exact .inl ⟨b, by omega, e⟩

theorem pushQ_nd (s : List Int) : ∀ k, ((pushQ s k).map (·.1)).Nodup
  | 0 => by simp [pushQ]
  | k + 1 => by
    rw [pushQ]
    refine ((pushL_perm ltQ qz _ _).map _).nodup_iff.2 ?_
    rw [List.map_append, List.nodup_append]
    refine ⟨pushQ_nd s k, by simp, fun c hc d hd => ?_⟩
    obtain ⟨w, hw, rfl⟩ := List.mem_map.1 hc
    obtain ⟨b, hb, rfl⟩ := (pushQ_mem s k w).1 hw
    simp only [List.map_cons, List.map_nil, List.mem_singleton] at hd
    rw [hd]; simp only; omega

theorem pushQ_hp (s : List Int) : ∀ k, Hp ltQ qz (pushQ s k) k
  | 0 => fun j _ h => by omega
  | k + 1 => by
    have := push_hp ltQ_ord qz ((k : Int), s.getD k 0) (l := pushQ s k) (by rw [pushQ_len]; exact pushQ_hp s k)
    rw [pushQ_len] at this
    exact this

theorem z8_at (b : Nat) : z8.getD b 0 = 0 := by
  match b with
  | 0 | 1 | 2 | 3 | 4 | 5 | 6 | 7 => rfl
  | b + 8 => rw [List.getD_eq_getElem?_getD, List.getElem?_eq_none (by simp [z8])]; rfl

theorem GI.init (s : List Int) {B : Int} (hB : 0 ≤ B) : GI s B (pushQ s 8, z8, B) where
  klen := rfl
  kr := fun b _ => by simp only [z8_at]; omega
  b0 := hB
  sum := by simp only [sumC_z8]; omega
  mem := fun w hw => by
    obtain ⟨b, hb, e⟩ := (pushQ_mem s 8 w).1 hw
    exact ⟨b, hb, by rw [e]; simp only [z8_at]; congr 1; omega⟩
  nd := pushQ_nd s 8
  hp := by simp only [pushQ_len]; exact pushQ_hp s 8
  len := by simp only [pushQ_len]; omega
  out := fun b hb h => absurd rfl (h _ ((pushQ_mem s 8 _).2 ⟨b, hb, rfl⟩))

theorem giveMu_init (s : List Int) (B : Int) : giveMu (pushQ s 8, z8, B) = 200 := by
  unfold giveMu
  simp only [pushQ_len]
  decide

/-- What is given at the end. -/
theorem give_end (s : List Int) {B : Int} (hB : 0 ≤ B) : ∃ left : Int, 0 ≤ left ∧ (giveF s B).length = 8 ∧ left + sumC (giveF s B) = B ∧ ∀ b, b < 8 → (0 ≤ (giveF s B).getD b 0 ∧ (giveF s B).getD b 0 ≤ 12) ∧ noMore ((giveF s B).getD b 0) left = true := by
  obtain ⟨-, h, hn⟩ := giveRun_fuel 200 _ (GI.init s hB) (by rw [giveMu_init]; omega)
  refine ⟨(giveRun 200 (pushQ s 8, z8, B)).2.2, h.b0, h.klen, h.sum, fun b hb => ⟨h.kr b hb, h.out b hb fun w hw => ?_⟩⟩
  rw [hn] at hw; cases hw

/-! ### As the document has it -/

structure RI (B : Int) (x : List Int × Int) : Prop where
  klen : x.1.length = 8
  kr : ∀ b, b < 8 → 0 ≤ x.1.getD b 0 ∧ x.1.getD b 0 ≤ 12
  b0 : 0 ≤ x.2
  b1 : x.2 ≤ B

def feas (k : List Int) (bits : Int) (b : Nat) : Prop := k.getD b 0 < 12 ∧ moreF (k.getD b 0) ≤ bits

theorem feas_iff {k : List Int} {bits : Int} {b : Nat} : feas k bits b ↔ noMore (k.getD b 0) bits = false := by
  unfold feas noMore
  simp only [Bool.or_eq_false_iff, decide_eq_false_iff_not]; omega

theorem best_cases (s k : List Int) (bits : Int) : ∀ n, (bestTo s k bits n = -1 ∧ ∀ b, b < n → ¬ feas k bits b) ∨ ∃ c : Nat, c < n ∧ bestTo s k bits n = (c : Int) ∧ feas k bits c
  | 0 => .inl ⟨rfl, fun b h => by omega⟩
  | n + 1 => by
    rw [bestTo]
    split
    · rename_i h
      exact .inr ⟨n, by omega, rfl, h.1, h.2.1⟩
    · rename_i h
      rcases best_cases s k bits n with ⟨h1, h2⟩ | ⟨c, h1, h2, h3⟩
      · refine .inl ⟨h1, fun b hb hf => ?_⟩
        by_cases hbn : b = n
        · subst hbn; exact h ⟨hf.1, hf.2, .inl (by omega)⟩
        · exact h2 b (by omega) hf
      · exact .inr ⟨c, by omega, h2, h3⟩

theorem best_is (s k : List Int) (bits : Int) {b : Nat} (hf : feas k bits b) : ∀ n, b < n → (∀ c, c < n → feas k bits c → s.getD c 0 - k.getD c 0 ≤ s.getD b 0 - k.getD b 0 ∧ (c < b → s.getD c 0 - k.getD c 0 < s.getD b 0 - k.getD b 0)) → bestTo s k bits n = (b : Int)
  | 0, h, _ => by omega
  | n + 1, h, hm => by
    rw [bestTo]
    by_cases e : b = n
    · subst e
      rw [if_pos]
      refine ⟨hf.1, hf.2, ?_⟩
      rcases best_cases s k bits b with ⟨h1, _⟩ | ⟨c, h1, h2, h3⟩
      · left; omega
      · right
        rw [h2, Int.toNat_natCast]
        exact (hm c (by omega) h3).2 h1
    · have ih := best_is s k bits hf n (by omega) (fun c hc => hm c (by omega))
      rw [ih, if_neg]
      rintro ⟨h1, h2, h3 | h3⟩
      · omega
      · have := (hm n (by omega) ⟨h1, h2⟩).1
        rw [Int.toNat_natCast] at h3; omega

theorem refRun_stop {s : List Int} {f : Nat} {x : List Int × Int} (h : bestTo s x.1 x.2 8 < 0) : refRun s f x = x.1 := by
  cases f with
  | zero => rfl
  | succ f => rw [refRun, if_pos h]

theorem give_ref {s : List Int} {B : Int} : ∀ (g : Nat) (x : GS) (f : Nat), GI s B x → giveMu x ≤ g → 96 - sumK x.2.1 < f → refRun s f x.2 = (giveRun g x).2.1 := by
  intro g
  induction g with
  | zero =>
    intro x f h hg hf
    have hx : x.1 = [] := List.eq_nil_of_length_eq_zero (by unfold giveMu at hg; omega)
    refine refRun_stop ?_
    rcases best_cases s x.2.1 x.2.2 8 with ⟨h1, _⟩ | ⟨c, h1, _, h3⟩
    · omega
    · have := h.out c h1 (fun w hw => by rw [hx] at hw; cases hw)
      rw [feas_iff.1 h3] at this; cases this
  | succ g ih =>
    intro x f h hg hf
    by_cases h0 : 0 < x.1.length
    · obtain ⟨h1, h2⟩ := h.step h0
      obtain ⟨b, hb, e, hmin, -⟩ := h.top h0
      have hsl := sumK_le x.2.1 (fun c hc => (h.kr c (by rw [← h.klen]; exact hc)).2)
      rw [h.klen] at hsl
      rw [giveRun_step h0]
      cases hn : noMore (x.2.1.getD b 0) x.2.2 with
      | true =>
        have e2 : giveStep x = (popL ltQ qz x.1, x.2.1, x.2.2) := by
          unfold giveStep; simp only [e, Int.toNat_natCast, hn, if_true]
        have := ih (giveStep x) f h1 (by omega) (by rw [e2]; exact hf)
        rw [← this, e2]
      | false =>
        have e2 : giveStep x = (pushL ltQ qz (popL ltQ qz x.1) ((b : Int), s.getD b 0 - x.2.1.getD b 0 - 1), x.2.1.set b (x.2.1.getD b 0 + 1), x.2.2 - moreF (x.2.1.getD b 0)) := by
          unfold giveStep; simp only [e, Int.toNat_natCast, hn]; rfl
        have hbest : bestTo s x.2.1 x.2.2 8 = (b : Int) := by
          refine best_is s x.2.1 x.2.2 (feas_iff.2 hn) 8 hb fun c hc hcf => ?_
          have hin : ∃ w ∈ x.1, w.1 = (c : Int) := by
            refine Classical.byContradiction fun hno => ?_
            have := h.out c hc (fun w hw hwc => hno ⟨w, hw, hwc⟩)
            rw [feas_iff.1 hcf] at this; cases this
          obtain ⟨w, hw, hwc⟩ := hin
          obtain ⟨d, hd, rfl⟩ := h.mem w hw
          simp only at hwc
          have : d = c := by omega
          subst this
          have := hmin _ hw
          rw [e] at this
          simp only [ltQ, Bool.or_eq_false_iff, Bool.and_eq_false_iff, decide_eq_false_iff_not] at this
          omega
        obtain ⟨f, rfl⟩ : ∃ f', f = f' + 1 := ⟨f - 1, by omega⟩
        rw [refRun, hbest, if_neg (by omega)]
        simp only [Int.toNat_natCast]
        have := ih (giveStep x) f h1 (by omega) (by
          rw [e2]; simp only [sumK_set _ _ _ (show b < x.2.1.length by rw [h.klen]; exact hb)]; omega)
        rw [← this, e2]
    · have hx : x.1 = [] := List.eq_nil_of_length_eq_zero (by omega)
      rw [giveRun_nil _ x hx]
      refine refRun_stop ?_
      rcases best_cases s x.2.1 x.2.2 8 with ⟨h1, _⟩ | ⟨c, h1, _, h3⟩
      · omega
      · have := h.out c h1 (fun w hw => by rw [hx] at hw; cases hw)
        rw [feas_iff.1 h3] at this; cases this

theorem give_eq (s : List Int) {B : Int} (hB : 0 ≤ B) : giveF s B = refF s B :=
  (give_ref 200 _ 100 (GI.init s hB) (by rw [giveMu_init]; omega) (by show 96 - sumK z8 < ((100 : Nat) : Int); decide)).symm

end Go.SL.S

/- Packets: plain functions. -/
namespace Go.SL.S
open Go Go.SL
abbrev SHQ : Type := List Int × List (List Int)
def packR (s : SHQ) (size : Int) : Bool := if giveB size = 0 ∨ rightF s.1 = false then false else (List.range 8).all fun b => decide (pulsesF (s.2.getD b (List.replicate 4 0)) = (giveV s.1 (giveB size)).getD b 0)
/-- How many bits a band's number has. -/
def bitsK (k : Int) : Nat := (bitsF k).toNat
def sideB (S : List Int) : List Int := S.flatMap fun s => bitsN s 4
def rowB (y : List Int) : List Int := bitsN (indexF y).1 (bitsK (pulsesF y))
def rowsB (Y : List (List Int)) : List Int := Y.flatMap rowB
/-- A packet's bits. -/
def layB (f : Int) (s : SHQ) : List Int := bitsN f 16 ++ sideB s.1 ++ rowsB s.2
def bodyS (f : Int) (s : SHQ) (size : Int) : List Int := packB (layB f s) ++ List.replicate ((size - 2).toNat - (packB (layB f s)).length) 0
def layS (f : Int) (s : SHQ) (size : Int) : List Int := sealS (bodyS f s size)
def layE (f : Int) (s : SHQ) (size : Int) : Int := if giveB size = 0 then 1 else if f < 0 ∨ 65535 < f then 7 else if packR s size then 0 else 3
def layV (f : Int) (s : SHQ) (size : Int) : ByteArray := if layE f s size = 0 then bytesOf (layS f s size) else ByteArray.empty
/-- A number out of bits. -/
def getN (U : List Int) (i n : Nat) : Int := numB ((U.drop i).take n)
def sideR (U : List Int) : List Int := (List.range 8).map fun b => getN U (16 + 4 * b) 4
def offK (k : List Int) : Nat → Nat
  | 0 => 48
  | b + 1 => offK k b + bitsK (k.getD b 0)
def rowI (U k : List Int) (b : Nat) : Int := getN U (offK k b) (bitsK (k.getD b 0))
def okTo (U k : List Int) (b : Nat) : Bool := (List.range b).all fun j => decide (rowI U k j < countF 4 (k.getD j 0))
def rowsR (U k : List Int) (b : Nat) : List (List Int) := (List.range b).map fun j => vecF 4 (k.getD j 0) (rowI U k j)
def zeroP : Int × SHQ := (0, List.replicate 8 0, List.replicate 8 (List.replicate 4 0))
/-- What is read of a packet's bits. -/
def readU (U : List Int) (size : Int) : (Int × SHQ) × Int :=
  let k := giveV (sideR U) (giveB size)
  if okTo U k 8 && (U.drop (offK k 8)).all fun b => decide (b ≠ 1) then ((getN U 0 16, sideR U, rowsR U k 8), 0) else (zeroP, 3)
def readS (xs : List Int) : (Int × SHQ) × Int :=
  if giveB xs.length = 0 then (zeroP, 1)
  else if sealS (xs.take (xs.length - 2)) = xs then readU (unB (xs.take (xs.length - 2))) xs.length
  else (zeroP, 4)
end Go.SL.S
