/- What a mark carries: the functions of the package load and the document's. -/
import Derived.Test.YthhfccnhkadkcaaDoorSip
import Derived.Test.YthhfccnhkadkcaaDoorAmend

/- What a mark carries: plain functions. -/
namespace Go.SL.S
open Go Go.SL
def mayL (p : Int) : Bool := decide (0 ≤ p) && decide (p < 281474976710656)
def bytesP (p : Int) : List Int := (List.range 6).map fun i => p / 256 ^ i % 256
def sumP (k : List Int) (p : Int) : Int := sipF k (bytesOf (bytesP p)) % 65536
def chkF (k : List Int) (p : Int) : Int := if mayL p then sumP k p else -1
def numP (k : List Int) (p : Int) : Int := p + sumP k p * 281474976710656
def layW (k : List Int) (p : Int) : List Bool := if mayL p then encF (numP k p) else w127
def layE (p : Int) : Int := if mayL p then 0 else 7
def readB (k : List Int) (x : Int) : Bool := decide (x / 281474976710656 = sumP k (x % 281474976710656))
def readI (k : List Int) (x : Int) : Int := if readB k x then x % 281474976710656 else 0
def readE (k : List Int) (x : Int) : Int := if readB k x then 0 else 6
def decW (v : List Int) : List Bool := v.map fun n => decide (n < 0)
def decH (v : List Int) : List Bool := v.map fun n => decide (n = 0)
def takeI (k v : List Int) : Int := if amE (decW v) (decH v) = 0 then readI k (amI (decW v) (decH v)) else 0
def takeE (k v : List Int) : Int := if amE (decW v) (decH v) = 0 then readE k (amI (decW v) (decH v)) else amE (decW v) (decH v)
end Go.SL.S

/- Masks and bytes of numbers: plain facts. -/
namespace Go.SL.A
open Go Go.SL Go.SL.S
set_option maxRecDepth 100000

theorem and_num (x : Int) (m : Nat) (hm : 2 ^ m ≤ 2 ^ 64) : (BitVec.ofInt 64 x &&& BitVec.ofInt 64 ((2 ^ m - 1 : Nat) : Int)).toNat = (x % 18446744073709551616).toNat % 2 ^ m := by
  have hp : 0 < 2 ^ m := Nat.pow_pos (by decide)
  rw [BitVec.toNat_and, BitVec.ofInt_natCast, BitVec.toNat_ofNat, BitVec.toNat_ofInt, Nat.mod_eq_of_lt (a := 2 ^ m - 1) (by omega), Nat.and_two_pow_sub_one_eq_mod]
  rfl
theorem iand16 (x : Int) (hx : 0 ≤ x ∧ x < 18446744073709551616) : iand .u64 x 65535 = x % 65536 := by
  unfold iand
  have h := and_num x 16 (by decide)
  have e : (((2 ^ 16 - 1 : Nat)) : Int) = 65535 := by decide
  have e2 : (2 : Nat) ^ 16 = 65536 := by decide
  rw [e, e2] at h
  have h : (BitVec.ofInt IntKind.u64.bits x &&& BitVec.ofInt IntKind.u64.bits 65535).toNat = (x % 18446744073709551616).toNat % 65536 := h
  rw [h, wrap_u64]; omega
theorem iand48 (x : Int) (hx : 0 ≤ x ∧ x < 18446744073709551616) : iand .u64 x 281474976710655 = x % 281474976710656 := by
  unfold iand
  have h := and_num x 48 (by decide)
  have e : (((2 ^ 48 - 1 : Nat)) : Int) = 281474976710655 := by decide
  have e2 : (2 : Nat) ^ 48 = 281474976710656 := by decide
  rw [e, e2] at h
  have h : (BitVec.ofInt IntKind.u64.bits x &&& BitVec.ofInt IntKind.u64.bits 281474976710655).toNat = (x % 18446744073709551616).toNat % 281474976710656 := h
  rw [h, wrap_u64]; omega
theorem iand48' (x : Int) : iand .i64 x 281474976710655 = x % 281474976710656 := by
  unfold iand
  have h := and_num x 48 (by decide)
  have e : (((2 ^ 48 - 1 : Nat)) : Int) = 281474976710655 := by decide
  have e2 : (2 : Nat) ^ 48 = 281474976710656 := by decide
  rw [e, e2] at h
  have h : (BitVec.ofInt IntKind.i64.bits x &&& BitVec.ofInt IntKind.i64.bits 281474976710655).toNat = (x % 18446744073709551616).toNat % 281474976710656 := h
  rw [h, w64 (by omega) (by omega)]; omega
theorem shr48 {x : Int} (hx : 0 ≤ x) : ishr .u64 x 48 = x / 281474976710656 := by
  unfold ishr
  have e : min (48 : Int).toNat IntKind.u64.bits = 48 := rfl
  have e2 : (2 : Int) ^ 48 = 281474976710656 := by decide
  rw [e, e2, Int.fdiv_eq_ediv_of_nonneg _ (by decide)]
theorem wrap_u8 (x : Int) : IntKind.u8.wrap x = x % 256 := by simp [IntKind.wrap, IntKind.bits, IntKind.signed]
theorem pow8 (i : Nat) : (2 : Int) ^ (8 * i) = 256 ^ i := by
  rw [Int.pow_mul]; rfl
theorem shr_byte (p : Int) {i : Nat} (hi : i < 8) : IntKind.u8.wrap (ishr .i64 p (8 * (i : Int))) = p / 256 ^ i % 256 := by
  unfold ishr
  have e : min (8 * (i : Int)).toNat IntKind.i64.bits = 8 * i := by
    have : IntKind.i64.bits = 64 := rfl
    omega
  rw [e, pow8, Int.fdiv_eq_ediv_of_nonneg _ (Int.le_of_lt (pow256 i)), wrap_u8]
theorem or48 {p c : Int} (hp : 0 ≤ p ∧ p < 281474976710656) (hc : 0 ≤ c ∧ c < 65536) : ior .u64 p (ishl .u64 c 48) = p + c * 281474976710656 := by
  obtain ⟨x, rfl⟩ : ∃ m : Nat, p = m := ⟨p.toNat, by omega⟩
  obtain ⟨y, rfl⟩ : ∃ m : Nat, c = m := ⟨c.toNat, by omega⟩
  have e48 : (2 : Nat) ^ 48 = 281474976710656 := by decide
  have hs : ishl .u64 (y : Int) 48 = ((2 ^ 48 * y : Nat) : Int) := by
    unfold ishl
    have e2 : min (48 : Int).toNat IntKind.u64.bits = 48 := rfl
    have e3 : (2 : Int) ^ 48 = 281474976710656 := by decide
    rw [e2, e3, e48, w_u64 (by omega) (by omega)]
    omega
  rw [hs, or_high (by rw [e48]; omega) (by rw [e48, p64]; omega), e48]
  omega
end Go.SL.A

/- Functions and what they are held to do: bound to their code. -/
namespace Go.SL.A
open Go Go.SL Go.SL.S
set_option maxRecDepth 100000
noncomputable def Cd74 : Ctx := ⟨Go.Proofs.Tryd.prog, D, Gd73, (fun _ _ => none), fun _ => []⟩
def annd74 (_p : Int) : Nat → St → Option Ann := fun _ _ => none
def outd74 (p : Int) : COut := ⟨[], .v .bool (mayL p), [], []⟩
def spd74 : Spec := fun args ins => match args, ins with
  | [⟨.int .i64, p⟩], [] => some (outd74 p)
  | _, _ => none
def Gd74 := addG Gd73 74 spd74
def Pd74 (p : Int) : Prop :=
  ∀ (b : Bool), decide ((0 : Int) ≤ p) = b → ((b = true → b = true) ∧ (b = true → b = true)) ∧ (bif b then decide (p < (281474976710656 : Int)) else false) = mayL p
theorem vcd74 (p : Int) : Pd74 p = vcFun Cd74 (annd74 p) Go.Proofs.Tryd.f74 [⟨.int .i64, p⟩] [] (outd74 p) := by kernel_rfl

noncomputable def Cd41 : Ctx := ⟨Go.Proofs.Tryd.prog, D, Gd74, (fun _ _ => none), fun _ => []⟩
def annd41 (_p : Int) : Nat → St → Option Ann := fun _ _ => none
def outd41 (p : Int) : COut := ⟨[], .v .bool (mayL p), [], []⟩
def spd41 : Spec := fun args ins => match args, ins with
  | [⟨.int .i64, p⟩], [] => some (outd41 p)
  | _, _ => none
def Gd41 := addG Gd74 41 spd41
def Pd41 (p : Int) : Prop :=
  ∀ (b : Bool), decide ((0 : Int) ≤ p) = b → ((b = true → b = true) ∧ (b = true → b = true)) ∧ (bif b then decide (p < (281474976710656 : Int)) else false) = mayL p
theorem vcd41 (p : Int) : Pd41 p = vcFun Cd41 (annd41 p) Go.Proofs.Tryd.f41 [⟨.int .i64, p⟩] [] (outd41 p) := by kernel_rfl

noncomputable def Cd42 : Ctx := ⟨Go.Proofs.Tryd.prog, D, Gd41, (fun _ _ => none), fun _ => []⟩
def annd42 (_k : List Int) (p : Int) : Nat → St → Option Ann := fun _ _ => some ⟨Nat, [1, 2], [0], fun i => [(10, .v (.int .i64) (i : Int)), (5, .v (.ref .slice) (.slice 1 (.int .u8) [] 0 i))], fun i => [(1, some ⟨false, false, .int .u8, (bytesP p).take i⟩)], fun i => i ≤ 6, fun i => 6 - i⟩
def outd42 (k : List Int) (p : Int) : COut := ⟨[], .v (.int .i64) (chkF k p), [], []⟩
def spd42 : Spec := fun args ins => match args, ins with
  | [⟨.arr 16 (.int .u8), k⟩, ⟨.int .i64, p⟩], [] => some (outd42 k p)
  | _, _ => none
def Gd42 := addG Gd41 42 spd42
def Pd42 (k : List Int) (p : Int) : Prop :=
  bif !mayL p then (-1 : Int) = chkF k p else ∃ (x : Nat), ((p = p ∧ (0 : Nat) = (0 : Nat) ∧ x = (0 : Nat) ∧ (0 : Int) = (↑x : Int) ∧ k = k ∧ false = false ∧ List.take x (bytesP p) = []) ∧ x ≤ (6 : Nat)) ∧ ∀ (x : Nat), x ≤
  (6 : Nat) → (IntKind.min IntKind.i64 ≤ (↑x : Int) ∧ (↑x : Int) ≤ IntKind.max IntKind.i64 ∧ ∀ (y : Int), List.Mem y (List.take x (bytesP p)) → IntKind.min IntKind.u8 ≤ y ∧ y ≤ IntKind.max IntKind.u8) → bif decide ((↑x :
  Int) < (6 : Int)) then ((0 : Int) ≤ IntKind.wrap IntKind.i64 ((8 : Int) * (↑x : Int)) ∧ (1 : Nat) ≤ (1 : Nat) ∧ (0 : Nat) + x = List.length (List.take x (bytesP p)) ∧ (x + List.length (seg (IntKind.wrap IntKind.u8 (ishr
  IntKind.i64 p (IntKind.wrap IntKind.i64 ((8 : Int) * (↑x : Int)))) :: List.replicate (nat_lit 0) (0 : Int)) (0 : Nat) (1 : Nat))) * (1 : Nat) ≤ (70368744177664 : Nat)) ∧ ∃ (y : Nat), (p = p ∧ (0 : Nat) = (0 : Nat) ∧ (0 :
  Nat) = (0 : Nat) ∧ x + List.length (seg (IntKind.wrap IntKind.u8 (ishr IntKind.i64 p (IntKind.wrap IntKind.i64 ((8 : Int) * (↑x : Int)))) :: List.replicate (nat_lit 0) (0 : Int)) (0 : Nat) (1 : Nat)) = y ∧ IntKind.wrap
  IntKind.i64 ((↑x : Int) + (1 : Int)) = (↑y : Int) ∧ k = k ∧ false = false ∧ List.append (List.drop (0 : Nat) (List.take x (bytesP p))) (seg (IntKind.wrap IntKind.u8 (ishr IntKind.i64 p (IntKind.wrap IntKind.i64 ((8 : Int)
  * (↑x : Int)))) :: List.replicate (nat_lit 0) (0 : Int)) (0 : Nat) (1 : Nat)) = List.take y (bytesP p) ∧ false = false) ∧ y ≤ (6 : Nat) ∧ (6 : Nat) - y < (6 : Nat) - x else ((0 : Nat) + x ≤ List.length (List.take x
  (bytesP p)) ∧ ByteArray.size (bytesOf (seg (List.take x (bytesP p)) (0 : Nat) x)) ≤ (1000000000 : Nat)) ∧ IntKind.wrap IntKind.i64 (iand IntKind.u64 (sipF k (bytesOf (seg (List.take x (bytesP p)) (0 : Nat) x))) (65535 :
  Int)) = chkF k p
theorem vcd42 (k : List Int) (p : Int) : Pd42 k p = vcFun Cd42 (annd42 k p) Go.Proofs.Tryd.f42 [⟨.arr 16 (.int .u8), k⟩, ⟨.int .i64, p⟩] [] (outd42 k p) := by kernel_rfl

noncomputable def Cd40 : Ctx := ⟨Go.Proofs.Tryd.prog, D, Gd42, (fun _ _ => none), fun _ => []⟩
def annd40 (_k : List Int) (_p : Int) : Nat → St → Option Ann := fun _ _ => none
def outd40 (k : List Int) (p : Int) : COut := ⟨[], .tup [⟨.arr 127 .bool, layW k p⟩, ⟨.int .i64, layE p⟩], [], []⟩
def spd40 : Spec := fun args ins => match args, ins with
  | [⟨.arr 16 (.int .u8), k⟩, ⟨.int .i64, p⟩], [] => some (outd40 k p)
  | _, _ => none
def Gd40 := addG Gd42 40 spd40
def Pd40 (k : List Int) (p : Int) : Prop :=
  bif !mayL p then false :: List.replicate (nat_lit 126) false = layW k p ∧ (7 : Int) = layE p else (0 : Int) ≤ (48 : Int) ∧ encF (ior IntKind.u64 (IntKind.wrap IntKind.u64 p) (ishl IntKind.u64 (IntKind.wrap IntKind.u64
  (chkF k p)) (48 : Int))) = layW k p ∧ (0 : Int) = layE p
theorem vcd40 (k : List Int) (p : Int) : Pd40 k p = vcFun Cd40 (annd40 k p) Go.Proofs.Tryd.f40 [⟨.arr 16 (.int .u8), k⟩, ⟨.int .i64, p⟩] [] (outd40 k p) := by kernel_rfl

noncomputable def Cd38 : Ctx := ⟨Go.Proofs.Tryd.prog, D, Gd40, (fun _ _ => none), fun _ => []⟩
def annd38 (_k : List Int) (_x : Int) : Nat → St → Option Ann := fun _ _ => none
def outd38 (k : List Int) (x : Int) : COut := ⟨[], .tup [⟨.int .i64, readI k x⟩, ⟨.int .i64, readE k x⟩], [], []⟩
def spd38 : Spec := fun args ins => match args, ins with
  | [⟨.arr 16 (.int .u8), k⟩, ⟨.int .u64, x⟩], [] => some (outd38 k x)
  | _, _ => none
def Gd38 := addG Gd40 38 spd38
def Pd38 (k : List Int) (x : Int) : Prop :=
  (0 : Int) ≤ (48 : Int) ∧ bif !decide (ishr IntKind.u64 x (48 : Int) = IntKind.wrap IntKind.u64 (chkF k (IntKind.wrap IntKind.i64 (iand IntKind.u64 x (281474976710655 : Int))))) then (0 : Int) = readI k x ∧ (6 : Int) =
  readE k x else IntKind.wrap IntKind.i64 (iand IntKind.u64 x (281474976710655 : Int)) = readI k x ∧ (0 : Int) = readE k x
theorem vcd38 (k : List Int) (x : Int) : Pd38 k x = vcFun Cd38 (annd38 k x) Go.Proofs.Tryd.f38 [⟨.arr 16 (.int .u8), k⟩, ⟨.int .u64, x⟩] [] (outd38 k x) := by kernel_rfl

noncomputable def Cd43 : Ctx := ⟨Go.Proofs.Tryd.prog, D, Gd38, (fun _ _ => none), fun _ => []⟩
def annd43 (v : List Int) : Nat → St → Option Ann := fun _ _ => some ⟨Nat, [2, 3, 4, 5, 8], [1, 2], fun i => [(9, .v (.int .i64) (i : Int))], fun i => [(3, some ⟨false, true, .arr 127 .bool, [(decW v).take i ++ (List.replicate 127 false).drop i]⟩), (4, some ⟨false, true, .arr 127 .bool, [(decH v).take i ++ (List.replicate 127 false).drop i]⟩)], fun i => i ≤ 127, fun i => 127 - i⟩
def outd43 (v : List Int) : COut := ⟨[], .tup [⟨.arr 127 .bool, decW v⟩, ⟨.arr 127 .bool, decH v⟩], [], []⟩
def spd43 : Spec := fun args ins => match args, ins with
  | [⟨.arr 127 (.int .i64), v⟩], [] => some (outd43 v)
  | _, _ => none
def Gd43 := addG Gd38 43 spd43
def Pd43 (v : List Int) : Prop :=
  ∃ (x : Nat), (((0 : Nat) = (0 : Nat) ∧ (0 : Nat) = (0 : Nat) ∧ (0 : Nat) = (0 : Nat) ∧ (0 : Nat) = (0 : Nat) ∧ v = v ∧ (0 : Int) = (↑x : Int) ∧ false :: List.replicate (nat_lit 126) false = List.replicate (127 : Nat)
  false ∧ false = false ∧ false :: List.replicate (nat_lit 126) false = List.replicate (127 : Nat) false ∧ false = false ∧ false :: List.replicate (nat_lit 126) false = List.take x (decW v) ++ List.drop x (List.replicate
  (127 : Nat) false) ∧ false = false ∧ false :: List.replicate (nat_lit 126) false = List.take x (decH v) ++ List.drop x (List.replicate (127 : Nat) false) ∧ false = false) ∧ x ≤ (127 : Nat)) ∧ ∀ (x : Nat), x ≤ (127 : Nat)
  → (IntKind.min IntKind.i64 ≤ (↑x : Int) ∧ (↑x : Int) ≤ IntKind.max IntKind.i64 ∧ (∀ (y : List Bool), List.Mem y [List.take x (decW v) ++ List.drop x (List.replicate (127 : Nat) false)] → List.length y = (127 : Nat) ∧ ∀
  (y_1 : Bool), List.Mem y_1 y → True) ∧ ∀ (y : List Bool), List.Mem y [List.take x (decH v) ++ List.drop x (List.replicate (127 : Nat) false)] → List.length y = (127 : Nat) ∧ ∀ (y_1 : Bool), List.Mem y_1 y → True) → bif
  decide ((↑x : Int) < (127 : Int)) then ((0 : Int) ≤ (↑x : Int) ∧ (↑x : Int) < (↑(127 : Nat) : Int)) ∧ (((0 : Int) ≤ (↑x : Int) ∧ (↑x : Int) < (↑(127 : Nat) : Int)) ∧ Int.toNat (↑x : Int) < (127 : Nat) ∧ ((0 : Int) ≤ (↑x :
  Int) ∧ (↑x : Int) < (↑(127 : Nat) : Int)) ∧ Int.toNat (↑x : Int) < (127 : Nat)) ∧ ∃ (y : Nat), ((0 : Nat) = (0 : Nat) ∧ (0 : Nat) = (0 : Nat) ∧ (0 : Nat) = (0 : Nat) ∧ (0 : Nat) = (0 : Nat) ∧ v = v ∧ IntKind.wrap
  IntKind.i64 ((↑x : Int) + (1 : Int)) = (↑y : Int) ∧ false :: List.replicate (nat_lit 126) false = List.replicate (127 : Nat) false ∧ false = false ∧ false :: List.replicate (nat_lit 126) false = List.replicate (127 : Nat)
  false ∧ false = false ∧ List.set (List.take x (decW v) ++ List.drop x (List.replicate (127 : Nat) false)) (Int.toNat (↑x : Int)) (decide (List.getD v (Int.toNat (↑x : Int)) (0 : Int) < (0 : Int))) = List.take y (decW v)
  ++ List.drop y (List.replicate (127 : Nat) false) ∧ false = false ∧ List.set (List.take x (decH v) ++ List.drop x (List.replicate (127 : Nat) false)) (Int.toNat (↑x : Int)) (decide (List.getD v (Int.toNat (↑x : Int)) (0 :
  Int) = (0 : Int))) = List.take y (decH v) ++ List.drop y (List.replicate (127 : Nat) false) ∧ false = false) ∧ y ≤ (127 : Nat) ∧ (127 : Nat) - y < (127 : Nat) - x else List.append (List.take x (decW v)) (List.drop x
  (List.replicate (127 : Nat) false)) = decW v ∧ List.append (List.take x (decH v)) (List.drop x (List.replicate (127 : Nat) false)) = decH v
theorem vcd43 (v : List Int) : Pd43 v = vcFun Cd43 (annd43 v) Go.Proofs.Tryd.f43 [⟨.arr 127 (.int .i64), v⟩] [] (outd43 v) := by kernel_rfl

noncomputable def Cd36 : Ctx := ⟨Go.Proofs.Tryd.prog, D, Gd43, (fun _ _ => none), fun _ => []⟩
def annd36 (_k _v : List Int) : Nat → St → Option Ann := fun _ _ => none
def outd36 (k v : List Int) : COut := ⟨[], .tup [⟨.int .i64, takeI k v⟩, ⟨.int .i64, takeE k v⟩], [], []⟩
def spd36 : Spec := fun args ins => match args, ins with
  | [⟨.arr 16 (.int .u8), k⟩, ⟨.arr 127 (.int .i64), v⟩], [] => some (outd36 k v)
  | _, _ => none
def Gd36 := addG Gd43 36 spd36
def Pd36 (k v : List Int) : Prop :=
  bif !decide (amE (decW v) (decH v) = (0 : Int)) then (0 : Int) = takeI k v ∧ amE (decW v) (decH v) = takeE k v else readI k (amI (decW v) (decH v)) = takeI k v ∧ readE k (amI (decW v) (decH v)) = takeE k v
theorem vcd36 (k v : List Int) : Pd36 k v = vcFun Cd36 (annd36 k v) Go.Proofs.Tryd.f36 [⟨.arr 16 (.int .u8), k⟩, ⟨.arr 127 (.int .i64), v⟩] [] (outd36 k v) := by kernel_rfl

noncomputable def Cd39 : Ctx := ⟨Go.Proofs.Tryd.prog, D, Gd36, (fun _ _ => none), fun _ => []⟩
def annd39 (_k : List Int) (p : Int) : Nat → St → Option Ann := fun _ _ => some ⟨Nat, [2], [0], fun i => [(6, .v (.int .i64) (i : Int)), (1, .v (.int .i64) (p / 256 ^ i)), (5, .v .str (bytesOf ((bytesP p).take i)))], fun _ => [], fun i => i ≤ 6, fun i => 6 - i⟩
def outd39 (k : List Int) (p : Int) : COut := ⟨[mayL p = true], .v (.int .i64) (sumP k p), [], []⟩
def spd39 : Spec := fun args ins => match args, ins with
  | [⟨.arr 16 (.int .u8), k⟩, ⟨.int .i64, p⟩], [] => some (outd39 k p)
  | _, _ => none
def Gd39 := addG Gd36 39 spd39
def Pd39 (k : List Int) (p : Int) : Prop :=
  ∃ (x : Nat), ((p = p / (256 : Int) ^ x ∧ (0 : Nat) = (0 : Nat) ∧ { data := { toList := [] } } = bytesOf (List.take x (bytesP p)) ∧ (0 : Int) = (↑x : Int) ∧ k = k ∧ false = false) ∧ x ≤ (6 : Nat)) ∧ ∀ (x : Nat), x ≤ (6 :
  Nat) → IntKind.min IntKind.i64 ≤ (↑x : Int) ∧ (↑x : Int) ≤ IntKind.max IntKind.i64 ∧ IntKind.min IntKind.i64 ≤ p / (256 : Int) ^ x ∧ p / (256 : Int) ^ x ≤ IntKind.max IntKind.i64 ∧ ByteArray.size (bytesOf (List.take x
  (bytesP p))) ≤ (9223372036854775807 : Nat) → bif decide ((↑x : Int) < (6 : Int)) then ((256 : Int) ≠ (0 : Int) ∧ (1 : Nat) ≤ (1 : Nat) ∧ ByteArray.size (bytesOf (List.take x (bytesP p))) + ByteArray.size (bytesOf (seg
  (IntKind.wrap IntKind.u8 (Int.tmod (p / (256 : Int) ^ x) (256 : Int)) :: List.replicate (nat_lit 0) (0 : Int)) (0 : Nat) (1 : Nat))) ≤ (9223372036854775807 : Nat)) ∧ (256 : Int) ≠ (0 : Int) ∧ ∃ (y : Nat), (IntKind.wrap
  IntKind.i64 (Int.tdiv (p / (256 : Int) ^ x) (256 : Int)) = p / (256 : Int) ^ y ∧ (0 : Nat) = (0 : Nat) ∧ ByteArray.append (bytesOf (List.take x (bytesP p))) (bytesOf (seg (IntKind.wrap IntKind.u8 (Int.tmod (p / (256 :
  Int) ^ x) (256 : Int)) :: List.replicate (nat_lit 0) (0 : Int)) (0 : Nat) (1 : Nat))) = bytesOf (List.take y (bytesP p)) ∧ IntKind.wrap IntKind.i64 ((↑x : Int) + (1 : Int)) = (↑y : Int) ∧ k = k ∧ false = false) ∧ y ≤ (6 :
  Nat) ∧ (6 : Nat) - y < (6 : Nat) - x else (ByteArray.size (bytesOf (List.take x (bytesP p))) ≤ (1000000000 : Nat) ∧ (65536 : Int) ≠ (0 : Int)) ∧ IntKind.wrap IntKind.i64 (Int.tmod (sipF k (bytesOf (List.take x (bytesP
  p)))) (65536 : Int)) = sumP k p
theorem vcd39 (k : List Int) (p : Int) : Pd39 k p = vcFun Cd39 (annd39 k p) Go.Proofs.Tryd.f39 [⟨.arr 16 (.int .u8), k⟩, ⟨.int .i64, p⟩] [] (outd39 k p) := by kernel_rfl

noncomputable def Cd33 : Ctx := ⟨Go.Proofs.Tryd.prog, D, Gd39, (fun _ _ => none), fun _ => []⟩
def annd33 (_k : List Int) (_p : Int) : Nat → St → Option Ann := fun _ _ => none
def outd33 (k : List Int) (p : Int) : COut := ⟨[mayL p = true], .v (.arr 127 .bool) (encF (numP k p)), [], []⟩
def spd33 : Spec := fun args ins => match args, ins with
  | [⟨.arr 16 (.int .u8), k⟩, ⟨.int .i64, p⟩], [] => some (outd33 k p)
  | _, _ => none
def Gd33 := addG Gd39 33 spd33
def Pd33 (k : List Int) (p : Int) : Prop :=
  mayL p = true ∧ encF (IntKind.wrap IntKind.u64 (IntKind.wrap IntKind.u64 p + IntKind.wrap IntKind.u64 ((281474976710656 : Int) * IntKind.wrap IntKind.u64 (sumP k p)))) = encF (numP k p)
theorem vcd33 (k : List Int) (p : Int) : Pd33 k p = vcFun Cd33 (annd33 k p) Go.Proofs.Tryd.f33 [⟨.arr 16 (.int .u8), k⟩, ⟨.int .i64, p⟩] [] (outd33 k p) := by kernel_rfl

end Go.SL.A

/- What a mark carries. -/
namespace Go.SL.A
open Go Go.SL Go.SL.S
set_option maxRecDepth 100000

theorem may_iff {p : Int} (h : mayL p = true) : 0 ≤ p ∧ p < 281474976710656 := by
  unfold mayL at h
  rw [Bool.and_eq_true, decide_eq_true_eq, decide_eq_true_eq] at h
  exact h
theorem may_of {p : Int} (h : 0 ≤ p ∧ p < 281474976710656) : mayL p = true := by
  unfold mayL
  rw [decide_eq_true h.1, decide_eq_true h.2]; rfl
theorem sip_fit (k : List Int) (s : ByteArray) : 0 ≤ sipF k s ∧ sipF k s < 18446744073709551616 := by
  unfold sipF sumV
  exact ixor_fit _ _
theorem sumP_fit (k : List Int) (p : Int) : 0 ≤ sumP k p ∧ sumP k p < 65536 := by unfold sumP; omega
theorem bytesP_len (p : Int) : (bytesP p).length = 6 := by simp [bytesP]
theorem bytesP_at (p : Int) {i : Nat} (hi : i < 6) : (bytesP p).getD i 0 = p / 256 ^ i % 256 := by
  unfold bytesP
  rw [List.getD_eq_getElem?_getD, List.getElem?_map, List.getElem?_range hi]; rfl
theorem bytes_step (p : Int) {i : Nat} (hi : i < 6) : (bytesP p).take i ++ [p / 256 ^ i % 256] = (bytesP p).take (i + 1) := by
  rw [take_snoc' (0 : Int) (by rw [bytesP_len]; exact hi), bytesP_at p hi]
theorem bytes_append (l m : List Int) : ByteArray.append (bytesOf l) (bytesOf m) = bytesOf (l ++ m) := by
  show bytesOf l ++ bytesOf m = _
  refine ByteArray.ext ?_
  rw [ByteArray.data_append]
  unfold bytesOf
  simp
theorem sg1 (w : Int) : seg (w :: List.replicate 0 0) 0 1 = [w] := rfl

theorem pured74 (p : Int) : Pd74 p := by
  unfold Pd74
  rintro _ rfl
  refine ⟨⟨fun h => h, fun h => h⟩, ?_⟩
  unfold mayL
  cases decide ((0 : Int) ≤ p) <;> rfl
theorem pured41 (p : Int) : Pd41 p := by
  unfold Pd41
  rintro _ rfl
  refine ⟨⟨fun h => h, fun h => h⟩, ?_⟩
  unfold mayL
  cases decide ((0 : Int) ≤ p) <;> rfl

theorem pured42 (k : List Int) (p : Int) : Pd42 k p := by
  unfold Pd42
  cases hB : mayL p with
  | false =>
    rw [Bool.not_false, cond_true]
    unfold chkF; rw [hB]; rfl
  | true =>
    have hp := may_iff hB
    rw [Bool.not_true, cond_false]
    simp only [eq_self, true_and, and_true, Nat.zero_add, sg1, List.length_singleton, List.length_take, bytesP_len]
    refine ⟨0, ⟨⟨rfl, rfl, rfl⟩, by omega⟩, fun i hi hw => ?_⟩
    clear hw
    by_cases h : (i : Int) < 6
    · have e : IntKind.i64.wrap (8 * (i : Int)) = 8 * (i : Int) := w64 (by omega) (by omega)
      rw [decide_eq_true h, cond_true, e, shr_byte p (by omega)]
      refine ⟨⟨by omega, by omega, by omega, by omega⟩, i + 1, ⟨rfl, step_i (by omega), ?_⟩, by omega, by omega⟩
      show List.drop 0 (List.take i (bytesP p)) ++ [p / 256 ^ i % 256] = _
      rw [List.drop_zero, bytes_step p (by omega)]
    · have : i = 6 := by omega
      subst this
      have e1 : seg (List.take 6 (bytesP p)) 0 6 = bytesP p := by
        unfold seg
        rw [List.drop_zero, List.take_take, List.take_of_length_le (by rw [bytesP_len]; exact Nat.le_refl _)]
      have hs := sip_fit k (bytesOf (bytesP p))
      rw [decide_eq_false h, cond_false, e1, size_of, bytesP_len, iand16 _ hs, w64 (by omega) (by omega)]
      refine ⟨⟨by omega, by omega⟩, ?_⟩
      unfold chkF; rw [hB]; rfl

theorem pured40 (k : List Int) (p : Int) : Pd40 k p := by
  unfold Pd40
  cases hB : mayL p with
  | false =>
    rw [Bool.not_false, cond_true]
    unfold layW layE
    rw [hB]
    exact ⟨rfl, rfl⟩
  | true =>
    have hp := may_iff hB
    have hs := sumP_fit k p
    have hc : chkF k p = sumP k p := by unfold chkF; rw [hB]; rfl
    rw [Bool.not_true, cond_false, hc, w_u64 hp.1 (by omega), w_u64 hs.1 (by omega), or48 hp hs]
    unfold layW layE
    rw [hB]
    exact ⟨by decide, rfl, rfl⟩

theorem hwd38 {k : List Int} {x : Int} (hw : Go.SL.allP (List.flatMap (fun a : AV => a.t.wf a.x) [⟨.arr 16 (.int .u8), k⟩, ⟨.int .u64, x⟩] ++ List.flatMap Blk.wf [])) : 0 ≤ x ∧ x < 18446744073709551616 := by
  simp only [List.flatMap_cons, List.flatMap_nil, Ty.wf, List.append_nil, List.cons_append, List.nil_append, Go.SL.allP] at hw
  have h1 : (0 : Int) ≤ x := hw.2.2.1
  have h2 : x ≤ 18446744073709551615 := hw.2.2.2
  omega
theorem pured38 (k : List Int) (x : Int) (hx : 0 ≤ x ∧ x < 18446744073709551616) : Pd38 k x := by
  unfold Pd38
  have hm : mayL (x % 281474976710656) = true := may_of (by omega)
  have hc : chkF k (x % 281474976710656) = sumP k (x % 281474976710656) := by unfold chkF; rw [hm]; rfl
  have hs := sumP_fit k (x % 281474976710656)
  rw [iand48 x hx, w64 (n := x % 281474976710656) (by omega) (by omega), shr48 hx.1, hc, w_u64 hs.1 (by omega)]
  refine ⟨by decide, ?_⟩
  have hB : readB k x = decide (x / 281474976710656 = sumP k (x % 281474976710656)) := rfl
  by_cases h : x / 281474976710656 = sumP k (x % 281474976710656)
  · rw [decide_eq_true h] at hB
    rw [decide_eq_true h, Bool.not_true, cond_false]
    unfold readI readE
    rw [hB]; exact ⟨rfl, rfl⟩
  · rw [decide_eq_false h] at hB
    rw [decide_eq_false h, Bool.not_false, cond_true]
    unfold readI readE
    rw [hB]; exact ⟨rfl, rfl⟩

theorem hwd43 {v : List Int} (hw : Go.SL.allP (List.flatMap (fun a : AV => a.t.wf a.x) [⟨.arr 127 (.int .i64), v⟩] ++ List.flatMap Blk.wf [])) : v.length = 127 := by
  simp only [List.flatMap_cons, List.flatMap_nil, Ty.wf, List.append_nil, List.cons_append, List.nil_append, Go.SL.allP] at hw
  exact hw.1
theorem dec_step (f : Int → Bool) {v : List Int} (hl : v.length = 127) {i : Nat} (hi : i < 127) : List.set (List.take i (v.map f) ++ List.drop i (List.replicate 127 false)) i (f (v.getD i 0)) = List.take (i + 1) (v.map f) ++ List.drop (i + 1) (List.replicate 127 false) :=
  set_step (by rw [List.length_map]; omega) (by rw [List.length_replicate]; exact hi) (by
    rw [List.getElem?_map, List.getD_eq_getElem?_getD, List.getElem?_eq_getElem (by omega)]; rfl)
theorem dec_end (f : Int → Bool) {v : List Int} (hl : v.length = 127) : List.take 127 (v.map f) ++ List.drop 127 (List.replicate 127 false) = v.map f := by
  rw [List.take_of_length_le (by rw [List.length_map]; omega), List.drop_eq_nil_of_le (by rw [List.length_replicate]; omega), List.append_nil]
theorem pured43 (v : List Int) (hl : v.length = 127) : Pd43 v := by
  unfold Pd43
  have z : false :: List.replicate 126 false = List.replicate 127 false := rfl
  simp only [eq_self, true_and, and_true, z, Int.toNat_natCast]
  refine ⟨0, ⟨⟨rfl, rfl, rfl⟩, by omega⟩, fun i hi hw => ?_⟩
  clear hw
  by_cases h : (i : Int) < 127
  · rw [decide_eq_true h, cond_true]
    exact ⟨⟨by omega, by omega⟩, ⟨⟨by omega, by omega⟩, by omega, ⟨by omega, by omega⟩, by omega⟩, i + 1, ⟨step_i (by omega), dec_step (fun n => decide (n < 0)) hl (by omega), dec_step (fun n => decide (n = 0)) hl (by omega)⟩, by omega, by omega⟩
  · have : i = 127 := by omega
    subst this
    rw [decide_eq_false h, cond_false]
    exact ⟨dec_end _ hl, dec_end _ hl⟩

theorem pured36 (k v : List Int) : Pd36 k v := by
  unfold Pd36
  by_cases h : amE (decW v) (decH v) = 0
  · rw [decide_eq_true h, Bool.not_true, cond_false]
    unfold takeI takeE
    rw [if_pos h, if_pos h]; exact ⟨rfl, rfl⟩
  · rw [decide_eq_false h, Bool.not_false, cond_true]
    unfold takeI takeE
    rw [if_neg h, if_neg h]; exact ⟨rfl, rfl⟩

theorem pured39 (k : List Int) (p : Int) (hB : mayL p = true) : Pd39 k p := by
  unfold Pd39
  have hp := may_iff hB
  simp only [eq_self, true_and, and_true, sg1, size_of, List.length_singleton, List.length_take, bytesP_len, bytes_append]
  refine ⟨0, ⟨⟨by rw [Int.pow_zero, Int.ediv_one], rfl, rfl⟩, by omega⟩, fun i hi hw => ?_⟩
  clear hw
  by_cases h : (i : Int) < 6
  · have hq : 0 ≤ p / 256 ^ i ∧ p / 256 ^ i ≤ p := ⟨Int.ediv_nonneg hp.1 (Int.le_of_lt (pow256 i)), Int.ediv_le_self _ hp.1⟩
    have hnext : p / 256 ^ (i + 1) = p / 256 ^ i / 256 := by rw [Int.pow_succ, Int.ediv_ediv_of_nonneg (Int.le_of_lt (pow256 i))]
    have hst := bytes_step p (i := i) (by omega)
    rw [decide_eq_true h, cond_true]
    generalize p / 256 ^ i = q at *
    have d := tdm q (k := 256) (by decide)
    have e1 : IntKind.u8.wrap (q.tmod 256) = q % 256 := by rw [wrap_u8]; omega
    have e2 : IntKind.i64.wrap (q.tdiv 256) = q / 256 := by rw [w64 (by omega) (by omega)]; omega
    rw [e1, e2]
    exact ⟨⟨by decide, by omega, by omega⟩, by decide, i + 1, ⟨hnext.symm, congrArg bytesOf hst, step_i (by omega)⟩, by omega, by omega⟩
  · have : i = 6 := by omega
    subst this
    have hs := sip_fit k (bytesOf (bytesP p))
    have e1 : List.take 6 (bytesP p) = bytesP p := List.take_of_length_le (by rw [bytesP_len]; exact Nat.le_refl _)
    have d := tdm (sipF k (bytesOf (bytesP p))) (k := 65536) (by decide)
    rw [decide_eq_false h, cond_false, e1]
    unfold sumP
    refine ⟨⟨by omega, by decide⟩, ?_⟩
    rw [w64 (by omega) (by omega)]; omega

theorem pured33 (k : List Int) (p : Int) (hB : mayL p = true) : Pd33 k p := by
  unfold Pd33
  have hp := may_iff hB
  have hs := sumP_fit k p
  rw [w_u64 hs.1 (by omega), w_u64 (x := 281474976710656 * sumP k p) (by omega) (by omega), w_u64 hp.1 (by omega), w_u64 (by omega) (by omega)]
  refine ⟨hB, ?_⟩
  unfold numP
  rw [Int.mul_comm]
end Go.SL.A

/- Functions do what they are held to do. -/
namespace Go.SL.A
open Go Go.SL Go.SL.S
theorem sndd74 : Sound Go.Proofs.Tryd.prog Gd74 := sndd73.add ⟨_, Go.Proofs.Tryd.func74, by kernel_rfl, by kernel_rfl⟩ (by
  intro args ins out h hp
  unfold spd74 at h
  split at h
  · rename_i p
    cases h
    exact vcFun_ok (C := Cd74) good sndd73 Meth.none mix Go.Proofs.Tryd.func74 (annd74 p) (fun hw => by rw [← vcd74 p]; exact pured74 p)
  · cases h)

theorem sndd41 : Sound Go.Proofs.Tryd.prog Gd41 := sndd74.add ⟨_, Go.Proofs.Tryd.func41, by kernel_rfl, by kernel_rfl⟩ (by
  intro args ins out h hp
  unfold spd41 at h
  split at h
  · rename_i p
    cases h
    exact vcFun_ok (C := Cd41) good sndd74 Meth.none mix Go.Proofs.Tryd.func41 (annd41 p) (fun hw => by rw [← vcd41 p]; exact pured41 p)
  · cases h)

theorem sndd42 : Sound Go.Proofs.Tryd.prog Gd42 := sndd41.add ⟨_, Go.Proofs.Tryd.func42, by kernel_rfl, by kernel_rfl⟩ (by
  intro args ins out h hp
  unfold spd42 at h
  split at h
  · rename_i k p
    cases h
    exact vcFun_ok (C := Cd42) good sndd41 Meth.none mix Go.Proofs.Tryd.func42 (annd42 k p) (fun hw => by rw [← vcd42 k p]; exact pured42 k p)
  · cases h)

theorem sndd40 : Sound Go.Proofs.Tryd.prog Gd40 := sndd42.add ⟨_, Go.Proofs.Tryd.func40, by kernel_rfl, by kernel_rfl⟩ (by
  intro args ins out h hp
  unfold spd40 at h
  split at h
  · rename_i k p
    cases h
    exact vcFun_ok (C := Cd40) good sndd42 Meth.none mix Go.Proofs.Tryd.func40 (annd40 k p) (fun hw => by rw [← vcd40 k p]; exact pured40 k p)
  · cases h)

theorem sndd38 : Sound Go.Proofs.Tryd.prog Gd38 := sndd40.add ⟨_, Go.Proofs.Tryd.func38, by kernel_rfl, by kernel_rfl⟩ (by
  intro args ins out h hp
  unfold spd38 at h
  split at h
  · rename_i k x
    cases h
    exact vcFun_ok (C := Cd38) good sndd40 Meth.none mix Go.Proofs.Tryd.func38 (annd38 k x) (fun hw => by rw [← vcd38 k x]; exact pured38 k x (hwd38 hw))
  · cases h)

theorem sndd43 : Sound Go.Proofs.Tryd.prog Gd43 := sndd38.add ⟨_, Go.Proofs.Tryd.func43, by kernel_rfl, by kernel_rfl⟩ (by
  intro args ins out h hp
  unfold spd43 at h
  split at h
  · rename_i v
    cases h
    exact vcFun_ok (C := Cd43) good sndd38 Meth.none mix Go.Proofs.Tryd.func43 (annd43 v) (fun hw => by rw [← vcd43 v]; exact pured43 v (hwd43 hw))
  · cases h)

theorem sndd36 : Sound Go.Proofs.Tryd.prog Gd36 := sndd43.add ⟨_, Go.Proofs.Tryd.func36, by kernel_rfl, by kernel_rfl⟩ (by
  intro args ins out h hp
  unfold spd36 at h
  split at h
  · rename_i k v
    cases h
    exact vcFun_ok (C := Cd36) good sndd43 Meth.none mix Go.Proofs.Tryd.func36 (annd36 k v) (fun hw => by rw [← vcd36 k v]; exact pured36 k v)
  · cases h)

theorem sndd39 : Sound Go.Proofs.Tryd.prog Gd39 := sndd36.add ⟨_, Go.Proofs.Tryd.func39, by kernel_rfl, by kernel_rfl⟩ (by
  intro args ins out h hp
  unfold spd39 at h
  split at h
  · rename_i k p
    cases h
    exact vcFun_ok (C := Cd39) good sndd36 Meth.none mix Go.Proofs.Tryd.func39 (annd39 k p) (fun hw => by rw [← vcd39 k p]; exact pured39 k p hp)
  · cases h)

theorem sndd33 : Sound Go.Proofs.Tryd.prog Gd33 := sndd39.add ⟨_, Go.Proofs.Tryd.func33, by kernel_rfl, by kernel_rfl⟩ (by
  intro args ins out h hp
  unfold spd33 at h
  split at h
  · rename_i k p
    cases h
    exact vcFun_ok (C := Cd33) good sndd39 Meth.none mix Go.Proofs.Tryd.func33 (annd33 k p) (fun hw => by rw [← vcd33 k p]; exact pured33 k p hp)
  · cases h)

end Go.SL.A

/- Statements about what a mark carries: plain functions. -/
namespace Go.SL.S
open Go Go.SL
def votW (w h : List Bool) (z : Int) : List Int := (List.range 127).map fun i => if bw h i then 0 else if bw w i then -(1 + z * (i : Int)) else 1 + z * (i : Int)
def votK (w : List Bool) : List Int := (List.range 127).map fun i => if bw w i then -1 else 1
def signV (v : List Int) : List Int := v.map fun n => if n < 0 then -1 else if 0 < n then 1 else 0
end Go.SL.S

/- Functions and what they are held to do: bound to their code. -/
namespace Go.SL.A
open Go Go.SL Go.SL.S
set_option maxRecDepth 100000
noncomputable def Cd32 : Ctx := ⟨Go.Proofs.Tryd.prog, D, Gd33, (fun _ _ => none), fun _ => []⟩
def annd32  : Nat → St → Option Ann := fun _ _ => none
def outd32  : COut := ⟨[], .v .bool true, [], []⟩
def spd32 : Spec := fun args ins => match args, ins with
  | [], [] => some outd32
  | _, _ => none
def Gd32 := addG Gd33 32 spd32
def Pd32  : Prop :=
  ∀ (b : Bool), decide (takeE (List.replicate (16 : Nat) (0 : Int)) (List.replicate (127 : Nat) (0 : Int)) = (5 : Int)) = b → bif bif b then decide (layE (5 : Int) = (0 : Int)) else false then ((b = true → b = true) ∧ (b = true → b = true)) ∧ isB (layW (List.replicate (16 : Nat) (0 : Int)) (5 : Int)) = true else ((b = true → b = true) ∧ (b = true → b
  = true) ∧ (false = true → false = true)) ∧ false = true
theorem vcd32 : Pd32  = vcFun Cd32 (annd32 ) Go.Proofs.Tryd.f32 [] [] outd32 := by kernel_rfl

end Go.SL.A

/- The example of chapter 7; what is taken. -/
namespace Go.SL.A
open Go Go.SL Go.SL.S
set_option maxRecDepth 100000

theorem num_back {k : List Int} {p : Int} (hp : 0 ≤ p ∧ p < 281474976710656) : (0 ≤ numP k p ∧ numP k p ≤ 18446744073709551615) ∧ numP k p / 281474976710656 = sumP k p ∧ numP k p % 281474976710656 = p := by
  have hs := sumP_fit k p
  unfold numP
  refine ⟨⟨by omega, by omega⟩, by omega, by omega⟩
theorem take_ok {k v : List Int} (h : takeE k v = 0) : amE (decW v) (decH v) = 0 ∧ amI (decW v) (decH v) = numP k (takeI k v) ∧ mayL (takeI k v) = true := by
  unfold takeE at h
  by_cases ha : amE (decW v) (decH v) = 0
  · rw [if_pos ha] at h
    obtain ⟨hx, -, -⟩ := am_ok ha
    have hI : takeI k v = readI k (amI (decW v) (decH v)) := by unfold takeI; rw [if_pos ha]
    generalize amI (decW v) (decH v) = x at *
    unfold readE at h
    cases hB : readB k x with
    | false => rw [hB] at h; exact absurd h (by decide)
    | true =>
      have hx2 : readI k x = x % 281474976710656 := by unfold readI; rw [hB]; rfl
      have hd := of_decide_eq_true (show decide (x / 281474976710656 = sumP k (x % 281474976710656)) = true from hB)
      rw [hI, hx2]
      refine ⟨ha, ?_, may_of (by omega)⟩
      unfold numP
      omega
  · rw [if_neg ha] at h; exact absurd h ha
theorem take_bad {k v : List Int} (h : takeE k v ≠ 0) : takeI k v = 0 := by
  unfold takeE at h
  unfold takeI
  by_cases ha : amE (decW v) (decH v) = 0
  · rw [if_pos ha] at h ⊢
    unfold readE at h
    unfold readI
    cases hB : readB k (amI (decW v) (decH v)) with
    | false => rfl
    | true => rw [hB] at h; exact absurd rfl h
  · rw [if_neg ha]
theorem take_num {k v : List Int} {p : Int} (hp : 0 ≤ p ∧ p < 281474976710656) (q : List Int) (ha : amE (decW v) (decH v) = 0) (hi : amI (decW v) (decH v) = numP q p) : (sumP q p = sumP k p → takeI k v = p ∧ takeE k v = 0) ∧ (sumP q p ≠ sumP k p → takeI k v = 0 ∧ takeE k v = 6) := by
  obtain ⟨-, h2, h3⟩ := num_back (k := q) hp
  unfold takeI takeE
  rw [if_pos ha, if_pos ha, hi]
  unfold readI readE
  have hB : readB k (numP q p) = decide (sumP q p = sumP k p) := by unfold readB; rw [h2, h3]
  constructor
  · intro h
    rw [hB, decide_eq_true h, if_pos rfl, if_pos rfl]; exact ⟨h3, rfl⟩
  · intro h
    rw [hB, decide_eq_false h]; exact ⟨rfl, rfl⟩

theorem decH_len (v : List Int) : (decH v).length = v.length := by simp [decH]
theorem decW_len (v : List Int) : (decW v).length = v.length := by simp [decW]
theorem decH_bw {v : List Int} {i : Nat} (h : i < v.length) : bw (decH v) i = decide (v.getD i 0 = 0) := by
  unfold bw decH
  rw [List.getD_eq_getElem?_getD, List.getElem?_map, List.getD_eq_getElem?_getD, List.getElem?_eq_getElem h]; rfl
theorem decW_bw {v : List Int} {i : Nat} (h : i < v.length) : bw (decW v) i = decide (v.getD i 0 < 0) := by
  unfold bw decW
  rw [List.getD_eq_getElem?_getD, List.getElem?_map, List.getD_eq_getElem?_getD, List.getElem?_eq_getElem h]; rfl

theorem far_none' (w h c : List Bool) : far6 w h c = 2 * (cn 127 (fun i => !bw h i && (bw w i != bw c i)) : Int) + (cn 127 (bw h) : Int) := far_cn w h c 127
theorem self_far' (w h : List Bool) : far6 w h w = (cn 127 (bw h) : Int) := by
  rw [far_none', cn_none (p := fun i => !bw h i && (bw w i != bw w i)) fun i _ => by
    show (!bw h i && (bw w i != bw w i)) = false
    cases bw h i <;> cases bw w i <;> rfl]
  omega
/-- Votes for nothing. -/
theorem take_none (k : List Int) : takeE k (List.replicate 127 0) = 5 := by
  have ha : amE (decW (List.replicate 127 0)) (decH (List.replicate 127 0)) = 5 := by
    have hh : ∀ i, i < 127 → bw (decH (List.replicate 127 0)) i = true := fun i hi => by
      rw [decH_bw (by rw [List.length_replicate]; exact hi)]
      apply decide_eq_true
      rw [List.getD_eq_getElem?_getD, List.getElem?_replicate, if_pos hi]; rfl
    generalize decH (List.replicate 127 0) = h at *
    rcases am_cases (decW (List.replicate 127 0)) h with ⟨c, -, hn, -, -⟩ | ⟨-, e2, -⟩
    · rw [near_far, Bool.and_eq_true, decide_eq_true_eq] at hn
      have h2 := hn.2
      rw [far_none', cn_congr (p := bw h) (q := fun _ => true) hh] at h2
      have e : cn 127 (fun _ => true) = 127 := by decide
      rw [e] at h2
      omega
    · exact e2
  unfold takeE
  rw [ha, if_neg (by decide)]

theorem pured32 : Pd32 := by
  unfold Pd32
  rw [take_none]
  have h2 : isB (layW (List.replicate 16 0) 5) = true := by
    have e : layW (List.replicate 16 0) 5 = encF (numP (List.replicate 16 0) 5) := by
      unfold layW
      rw [may_of (by decide), if_pos rfl]
    rw [e]
    exact (isB_cw _).2 (enc_cw _)
  have h3 : decide (layE 5 = 0) = true := by
    unfold layE
    rw [may_of (by decide)]; rfl
  rw [h2, h3]
  rintro _ rfl
  simp
end Go.SL.A

/- Functions do what they are held to do. -/
namespace Go.SL.A
open Go Go.SL Go.SL.S
theorem sndd32 : Sound Go.Proofs.Tryd.prog Gd32 := sndd33.add ⟨_, Go.Proofs.Tryd.func32, by kernel_rfl, by kernel_rfl⟩ (by
  intro args ins out h hp
  unfold spd32 at h
  split at h
  · cases h
    exact vcFun_ok (C := Cd32) good sndd33 Meth.none mix Go.Proofs.Tryd.func32 (annd32 ) (fun hw => by rw [← vcd32 ]; exact pured32)
  · cases h)

end Go.SL.A

/- Statements about what a mark carries: plain laws. -/
namespace Go.SL.A
open Go Go.SL Go.SL.S
set_option maxRecDepth 100000

theorem spoil_len' : ∀ (l : List Int) (w : List Bool), (spoilF w l).length = w.length
  | [], _ => rfl
  | x :: l, w => by
    show (spoilF (w.set (x.toNat % 127) (!(bw w (x.toNat % 127)))) l).length = _
    rw [spoil_len' l, List.length_set]
theorem marks_len' (l : List Int) (g : Int → Nat) : ∀ w : List Bool, (l.foldl (fun v x => v.set (g x) true) w).length = w.length := by
  induction l with
  | nil => intro w; rfl
  | cons x l ih => intro w; rw [List.foldl_cons, ih, List.length_set]
theorem holes_len' (l : List Int) : (holesF l).length = 127 := by
  unfold holesF
  rw [marks_len']
  exact List.length_replicate

theorem row_step {f : List Int} (hl : f.length = 127) {i : Nat} (hi : i < 127) {x : Int} (hx : f.getD i 0 = x) : List.set (List.take i f ++ List.drop i (List.replicate 127 0)) i x = List.take (i + 1) f ++ List.drop (i + 1) (List.replicate 127 0) :=
  set_step (by omega) (by rw [List.length_replicate]; exact hi) (by
    rw [← hx, List.getD_eq_getElem?_getD, List.getElem?_eq_getElem (by omega)]; rfl)
theorem row_keep {f : List Int} (hl : f.length = 127) {i : Nat} (hi : i < 127) (hx : f.getD i 0 = 0) : List.take i f ++ List.drop i (List.replicate 127 0) = List.take (i + 1) f ++ List.drop (i + 1) (List.replicate 127 0) := by
  rw [← row_step hl hi hx]
  refine (List.ext_getElem? fun k => ?_)
  rw [List.getElem?_set]
  split
  · rename_i e
    subst e
    rw [if_pos (by rw [List.length_append, List.length_take, List.length_drop, List.length_replicate]; omega), List.getElem?_append_right (by rw [List.length_take]; omega), List.length_take, Nat.min_eq_left (by omega), Nat.sub_self, List.getElem?_drop, List.getElem?_replicate, if_pos (by omega)]
  · rfl
theorem row_end {f : List Int} (hl : f.length = 127) : List.take 127 f ++ List.drop 127 (List.replicate 127 0) = f := by
  rw [List.take_of_length_le (by omega), List.drop_eq_nil_of_le (by rw [List.length_replicate]; omega), List.append_nil]
theorem row_len {f : List Int} (hl : f.length = 127) {i : Nat} (hi : i ≤ 127) : (List.take i f ++ List.drop i (List.replicate 127 (0 : Int))).length = 127 := by
  rw [List.length_append, List.length_take, List.length_drop, List.length_replicate]; omega
theorem set_set (l : List Int) (i : Nat) (x y : Int) : List.set (List.set l i x) i y = List.set l i y := by
  rw [List.set_set]
theorem set_get (l : List Int) {i : Nat} (hi : i < l.length) (x : Int) : List.getD (List.set l i x) i 0 = x := by
  rw [List.getD_eq_getElem?_getD, List.getElem?_set, if_pos rfl, if_pos hi]; rfl

theorem votW_len (w h : List Bool) (z : Int) : (votW w h z).length = 127 := by simp [votW]
theorem votW_at (w h : List Bool) (z : Int) {i : Nat} (hi : i < 127) : (votW w h z).getD i 0 = if bw h i then 0 else if bw w i then -(1 + z * (i : Int)) else 1 + z * (i : Int) := by
  unfold votW
  rw [List.getD_eq_getElem?_getD, List.getElem?_map, List.getElem?_range hi]; rfl
theorem votK_len (w : List Bool) : (votK w).length = 127 := by simp [votK]
theorem votK_at (w : List Bool) {i : Nat} (hi : i < 127) : (votK w).getD i 0 = if bw w i then -1 else 1 := by
  unfold votK
  rw [List.getD_eq_getElem?_getD, List.getElem?_map, List.getElem?_range hi]; rfl
theorem votW_take {w h : List Bool} (hh : h.length = 127) {z : Int} (hz : 0 ≤ z) : decH (votW w h z) = h ∧ (∀ i, i < 127 → bw h i = false → bw (decW (votW w h z)) i = bw w i) := by
  have hp : ∀ i : Nat, 0 ≤ z * (i : Int) := fun i => Int.mul_nonneg hz (by omega)
  constructor
  · refine bw_ext (by rw [decH_len, votW_len]) hh fun i hi => ?_
    rw [decH_bw (by rw [votW_len]; exact hi), votW_at w h z hi]
    have := hp i
    cases bw h i with
    | true => rfl
    | false =>
      cases bw w i with
      | true => exact decide_eq_false (by simp; omega)
      | false => exact decide_eq_false (by simp; omega)
  · intro i hi hb
    rw [decW_bw (by rw [votW_len]; exact hi), votW_at w h z hi, hb]
    have := hp i
    cases bw w i with
    | true => exact decide_eq_true (by simp; omega)
    | false => exact decide_eq_false (by simp; omega)
theorem votK_take {w : List Bool} (hw : w.length = 127) : decW (votK w) = w ∧ decH (votK w) = w127 := by
  constructor
  · refine bw_ext (by rw [decW_len, votK_len]) hw fun i hi => ?_
    rw [decW_bw (by rw [votK_len]; exact hi), votK_at w hi]
    cases bw w i <;> rfl
  · refine bw_ext (by rw [decH_len, votK_len]) (by exact List.length_replicate) fun i hi => ?_
    rw [decH_bw (by rw [votK_len]; exact hi), votK_at w hi, w127_bw hi]
    cases bw w i <;> rfl
theorem signV_len (v : List Int) : (signV v).length = v.length := by simp [signV]
theorem signV_at {v : List Int} {i : Nat} (hi : i < v.length) : (signV v).getD i 0 = if v.getD i 0 < 0 then -1 else if 0 < v.getD i 0 then 1 else 0 := by
  unfold signV
  rw [List.getD_eq_getElem?_getD, List.getElem?_map, List.getD_eq_getElem?_getD, List.getElem?_eq_getElem hi]; rfl
theorem sign_take {v : List Int} (hl : v.length = 127) : decW (signV v) = decW v ∧ decH (signV v) = decH v := by
  constructor
  · refine bw_ext (by rw [decW_len, signV_len, hl]) (by rw [decW_len, hl]) fun i hi => ?_
    rw [decW_bw (by rw [signV_len]; omega), decW_bw (by omega), signV_at (by omega)]
    generalize v.getD i 0 = x
    by_cases h : x < 0
    · rw [if_pos h, decide_eq_true h]; rfl
    · rw [if_neg h, decide_eq_false h]
      split <;> rfl
  · refine bw_ext (by rw [decH_len, signV_len, hl]) (by rw [decH_len, hl]) fun i hi => ?_
    rw [decH_bw (by rw [signV_len]; omega), decH_bw (by omega), signV_at (by omega)]
    generalize v.getD i 0 = x
    by_cases h : x < 0
    · rw [if_pos h, decide_eq_false (show ¬ x = 0 by omega)]; rfl
    · by_cases h2 : 0 < x
      · rw [if_neg h, if_pos h2, decide_eq_false (show ¬ x = 0 by omega)]; rfl
      · rw [if_neg h, if_neg h2, decide_eq_true (show x = 0 by omega)]; rfl
theorem sign_same {v : List Int} (hl : v.length = 127) (k : List Int) : takeI k (signV v) = takeI k v ∧ takeE k (signV v) = takeE k v := by
  obtain ⟨e1, e2⟩ := sign_take hl
  unfold takeI takeE
  rw [e1, e2]; exact ⟨rfl, rfl⟩
theorem mod48 (p : Int) : 0 ≤ p % 281474976710656 ∧ p % 281474976710656 < 281474976710656 := by omega
end Go.SL.A
