/- What a key makes of numbers: the functions of the package keyed and the document's. -/
import Derived.Test.YthhfccnhkadkcaaDoorSip
import Derived.Test.YthhfccnhkadkcaaDoorT

/- Masks and bytes of numbers: plain facts. -/
namespace Go.SL.A
open Go Go.SL Go.SL.S
set_option maxRecDepth 100000

theorem and_num (x : Int) (m : Nat) (hm : 2 ^ m ≤ 2 ^ 64) : (BitVec.ofInt 64 x &&& BitVec.ofInt 64 ((2 ^ m - 1 : Nat) : Int)).toNat = (x % 18446744073709551616).toNat % 2 ^ m := by
  have hp : 0 < 2 ^ m := Nat.pow_pos (by decide)
  rw [BitVec.toNat_and, BitVec.ofInt_natCast, BitVec.toNat_ofNat, BitVec.toNat_ofInt, Nat.mod_eq_of_lt (a := 2 ^ m - 1) (by omega), Nat.and_two_pow_sub_one_eq_mod]
  rfl
theorem iand16 (x : Int) (hx : 0 ≤ x ∧ x < 18446744073709551616) : iand .u64 x 65535 = x % 65536 := by
  unfold iand
  have h := and_num x 16 (by decide)
  have e : (((2 ^ 16 - 1 : Nat)) : Int) = 65535 := by decide
  have e2 : (2 : Nat) ^ 16 = 65536 := by decide
  rw [e, e2] at h
  have h : (BitVec.ofInt IntKind.u64.bits x &&& BitVec.ofInt IntKind.u64.bits 65535).toNat = (x % 18446744073709551616).toNat % 65536 := h
  rw [h, wrap_u64]; omega
theorem iand48 (x : Int) (hx : 0 ≤ x ∧ x < 18446744073709551616) : iand .u64 x 281474976710655 = x % 281474976710656 := by
  unfold iand
  have h := and_num x 48 (by decide)
  have e : (((2 ^ 48 - 1 : Nat)) : Int) = 281474976710655 := by decide
  have e2 : (2 : Nat) ^ 48 = 281474976710656 := by decide
  rw [e, e2] at h
  have h : (BitVec.ofInt IntKind.u64.bits x &&& BitVec.ofInt IntKind.u64.bits 281474976710655).toNat = (x % 18446744073709551616).toNat % 281474976710656 := h
  rw [h, wrap_u64]; omega
theorem iand48' (x : Int) : iand .i64 x 281474976710655 = x % 281474976710656 := by
  unfold iand
  have h := and_num x 48 (by decide)
  have e : (((2 ^ 48 - 1 : Nat)) : Int) = 281474976710655 := by decide
  have e2 : (2 : Nat) ^ 48 = 281474976710656 := by decide
  rw [e, e2] at h
  have h : (BitVec.ofInt IntKind.i64.bits x &&& BitVec.ofInt IntKind.i64.bits 281474976710655).toNat = (x % 18446744073709551616).toNat % 281474976710656 := h
  rw [h, w64 (by omega) (by omega)]; omega
theorem shr48 {x : Int} (hx : 0 ≤ x) : ishr .u64 x 48 = x / 281474976710656 := by
  unfold ishr
  have e : min (48 : Int).toNat IntKind.u64.bits = 48 := rfl
  have e2 : (2 : Int) ^ 48 = 281474976710656 := by decide
  rw [e, e2, Int.fdiv_eq_ediv_of_nonneg _ (by decide)]
theorem wrap_u8 (x : Int) : IntKind.u8.wrap x = x % 256 := by simp [IntKind.wrap, IntKind.bits, IntKind.signed]
theorem pow8 (i : Nat) : (2 : Int) ^ (8 * i) = 256 ^ i := by
  rw [Int.pow_mul]; rfl
theorem shr_byte (p : Int) {i : Nat} (hi : i < 8) : IntKind.u8.wrap (ishr .i64 p (8 * (i : Int))) = p / 256 ^ i % 256 := by
  unfold ishr
  have e : min (8 * (i : Int)).toNat IntKind.i64.bits = 8 * i := by
    have : IntKind.i64.bits = 64 := rfl
    omega
  rw [e, pow8, Int.fdiv_eq_ediv_of_nonneg _ (Int.le_of_lt (pow256 i)), wrap_u8]
theorem or48 {p c : Int} (hp : 0 ≤ p ∧ p < 281474976710656) (hc : 0 ≤ c ∧ c < 65536) : ior .u64 p (ishl .u64 c 48) = p + c * 281474976710656 := by
  obtain ⟨x, rfl⟩ : ∃ m : Nat, p = m := ⟨p.toNat, by omega⟩
  obtain ⟨y, rfl⟩ : ∃ m : Nat, c = m := ⟨c.toNat, by omega⟩
  have e48 : (2 : Nat) ^ 48 = 281474976710656 := by decide
  have hs : ishl .u64 (y : Int) 48 = ((2 ^ 48 * y : Nat) : Int) := by
    unfold ishl
    have e2 : min (48 : Int).toNat IntKind.u64.bits = 48 := rfl
    have e3 : (2 : Int) ^ 48 = 281474976710656 := by decide
    rw [e2, e3, e48, w_u64 (by omega) (by omega)]
    omega
  rw [hs, or_high (by rw [e48]; omega) (by rw [e48, p64]; omega), e48]
  omega
theorem sip_fit (k : List Int) (s : ByteArray) : 0 ≤ sipF k s ∧ sipF k s < 18446744073709551616 := by
  unfold sipF sumV
  exact ixor_fit _ _
theorem bytes_append (l m : List Int) : ByteArray.append (bytesOf l) (bytesOf m) = bytesOf (l ++ m) := by
  show bytesOf l ++ bytesOf m = _
  refine ByteArray.ext ?_
  rw [ByteArray.data_append]
  unfold bytesOf
  simp
theorem sg1 (w : Int) : seg (w :: List.replicate 0 0) 0 1 = [w] := rfl

end Go.SL.A

/- What a key makes of a number: plain functions. -/
namespace Go.SL.S
open Go Go.SL
def nbytes (n : Int) : List Int := (List.range 8).map fun i => n % 18446744073709551616 / 256 ^ i % 256
def numK (k : List Int) (sign n : Int) : Int := sipF k (bytesOf (sign :: nbytes n))
def iotaI (n : Nat) : List Int := (List.range n).map fun i : Nat => (i : Int)
def swpI (l : List Int) (i j : Nat) : List Int := List.set (List.set l i (List.getD l j 0)) j (List.getD l i 0)
def ordTo (k : List Int) (sign : Int) (n : Nat) : Nat → List Int
  | 0 => iotaI n
  | m + 1 => swpI (ordTo k sign n m) (n - 1 - m) (numK k sign ((n - 1 - m : Nat) : Int) % ((n - m : Nat) : Int)).toNat
def ordK (k : List Int) (sign : Int) (n : Nat) : List Int := ordTo k sign n (n - 1)
def bandK (k : List Int) (f : Int) : Int := (ordK k (128 + f % 1016 / 8) 8).getD (f % 1016 % 8).toNat 0
def chipK (x : Int) : List Int := (List.range 4).map fun i => if bitX x i then -1 else 1
def chipsK (k : List Int) (f : Int) : List Int := chipK (numK k 99 (f % 1016))
end Go.SL.S

/- Functions and what they are held to do: bound to their code. -/
namespace Go.SL.A
open Go Go.SL Go.SL.S
set_option maxRecDepth 100000
noncomputable def Cd109 : Ctx := ⟨Go.Proofs.Tryd.prog, D, Gd73, (fun _ _ => none), fun _ => []⟩
def annd109 (_i _x : Int) : Nat → St → Option Ann := fun _ _ => none
def outd109 (i x : Int) : COut := ⟨[0 ≤ i ∧ i < 64], .v .bool (bitX x i.toNat), [], []⟩
def spd109 : Spec := fun args ins => match args, ins with
  | [⟨.int .i64, i⟩, ⟨.ref .ptr, .ptr 0 (.int .u64) [0]⟩], [⟨false, true, .int .u64, [x]⟩] => some (outd109 i x)
  | _, _ => none
def Gd109 := addG Gd73 109 spd109
def Pd109 (i x : Int) : Prop :=
  (0 : Int) ≤ i ∧ decide (iand IntKind.u64 (ishr IntKind.u64 x i) (1 : Int) = (1 : Int)) = bitX x (Int.toNat i) ∧ x = x ∧ false = false
theorem vcd109 (i x : Int) : Pd109 i x = vcFun Cd109 (annd109 i x) Go.Proofs.Tryd.f109 [⟨.int .i64, i⟩, ⟨.ref .ptr, .ptr 0 (.int .u64) [0]⟩] [⟨false, true, .int .u64, [x]⟩] (outd109 i x) := by kernel_rfl

noncomputable def Cd81 : Ctx := ⟨Go.Proofs.Tryd.prog, D, Gd109, (fun _ _ => none), fun _ => []⟩
def annd81 (_x : Int) : Nat → St → Option Ann := fun _ _ => none
def outd81 (x : Int) : COut := ⟨[], .v (.ref .func) (.func (.func 109) [] [.ptr 0 (.int .u64) [0]]), [], [⟨false, true, .int .u64, [x]⟩]⟩
def spd81 : Spec := fun args ins => match args, ins with
  | [⟨.int .u64, x⟩], [] => some (outd81 x)
  | _, _ => none
def Gd81 := addG Gd109 81 spd81
def Pd81 (x : Int) : Prop :=
  (0 : Nat) = (0 : Nat) ∧ x = x ∧ false = false
theorem vcd81 (x : Int) : Pd81 x = vcFun Cd81 (annd81 x) Go.Proofs.Tryd.f81 [⟨.int .u64, x⟩] [] (outd81 x) := by kernel_rfl

noncomputable def Cd82 : Ctx := ⟨Go.Proofs.Tryd.prog, D, Gd81, (fun _ _ => none), fun _ => []⟩
def annd82 (_k : List Int) (s n : Int) : Nat → St → Option Ann := fun _ _ => some ⟨Nat, [2, 3], [0], fun i => [(11, .v (.int .i64) (i : Int)), (7, .v (.ref .slice) (.slice 2 (.int .u8) [] 0 (i + 1)))], fun i => [(2, some ⟨false, false, .int .u8, s :: (nbytes n).take i⟩)], fun i => i ≤ 8, fun i => 8 - i⟩
def outd82 (k : List Int) (s n : Int) : COut := ⟨[], .v (.int .u64) (numK k s n), [], []⟩
def spd82 : Spec := fun args ins => match args, ins with
  | [⟨.arr 16 (.int .u8), k⟩, ⟨.int .u8, s⟩, ⟨.int .i64, n⟩], [] => some (outd82 k s n)
  | _, _ => none
def Gd82 := addG Gd81 82 spd82
def Pd82 (k : List Int) (s n : Int) : Prop :=
  ∃ (x : Nat), ((n = n ∧ (0 : Nat) = (0 : Nat) ∧ (0 : Nat) = (0 : Nat) ∧ (1 : Nat) = x + (1 : Nat) ∧ (0 : Int) = (↑x : Int) ∧ k = k ∧ false = false ∧ s :: List.replicate (nat_lit 0) (0 : Int) = s :: List.take x (nbytes n) ∧
  false = false) ∧ x ≤ (8 : Nat)) ∧ ∀ (x : Nat), x ≤ (8 : Nat) → (IntKind.min IntKind.i64 ≤ (↑x : Int) ∧ (↑x : Int) ≤ IntKind.max IntKind.i64 ∧ ∀ (y : Int), List.Mem y (s :: List.take x (nbytes n)) → IntKind.min IntKind.u8
  ≤ y ∧ y ≤ IntKind.max IntKind.u8) → bif decide ((↑x : Int) < (8 : Int)) then ((0 : Int) ≤ IntKind.wrap IntKind.i64 ((8 : Int) * (↑x : Int)) ∧ (1 : Nat) ≤ (1 : Nat) ∧ (0 : Nat) + (x + (1 : Nat)) = List.length (s ::
  List.take x (nbytes n)) ∧ (x + (1 : Nat) + List.length (seg (IntKind.wrap IntKind.u8 (ishr IntKind.u64 (IntKind.wrap IntKind.u64 n) (IntKind.wrap IntKind.i64 ((8 : Int) * (↑x : Int)))) :: List.replicate (nat_lit 0) (0 :
  Int)) (0 : Nat) (1 : Nat))) * (1 : Nat) ≤ (70368744177664 : Nat)) ∧ ∃ (y : Nat), (n = n ∧ (0 : Nat) = (0 : Nat) ∧ (0 : Nat) = (0 : Nat) ∧ x + (1 : Nat) + List.length (seg (IntKind.wrap IntKind.u8 (ishr IntKind.u64
  (IntKind.wrap IntKind.u64 n) (IntKind.wrap IntKind.i64 ((8 : Int) * (↑x : Int)))) :: List.replicate (nat_lit 0) (0 : Int)) (0 : Nat) (1 : Nat)) = y + (1 : Nat) ∧ IntKind.wrap IntKind.i64 ((↑x : Int) + (1 : Int)) = (↑y :
  Int) ∧ k = k ∧ false = false ∧ s :: List.append (List.take x (nbytes n)) (seg (IntKind.wrap IntKind.u8 (ishr IntKind.u64 (IntKind.wrap IntKind.u64 n) (IntKind.wrap IntKind.i64 ((8 : Int) * (↑x : Int)))) :: List.replicate
  (nat_lit 0) (0 : Int)) (0 : Nat) (1 : Nat)) = s :: List.take y (nbytes n) ∧ false = false) ∧ y ≤ (8 : Nat) ∧ (8 : Nat) - y < (8 : Nat) - x else ((0 : Nat) + (x + (1 : Nat)) ≤ List.length (s :: List.take x (nbytes n)) ∧
  ByteArray.size (bytesOf (seg (s :: List.take x (nbytes n)) (0 : Nat) (x + (1 : Nat)))) ≤ (1000000000 : Nat)) ∧ sipF k (bytesOf (seg (s :: List.take x (nbytes n)) (0 : Nat) (x + (1 : Nat)))) = numK k s n
theorem vcd82 (k : List Int) (s n : Int) : Pd82 k s n = vcFun Cd82 (annd82 k s n) Go.Proofs.Tryd.f82 [⟨.arr 16 (.int .u8), k⟩, ⟨.int .u8, s⟩, ⟨.int .i64, n⟩] [] (outd82 k s n) := by kernel_rfl

noncomputable def Cd54 : Ctx := ⟨Go.Proofs.Tryd.prog, D, Gd82, (fun _ _ => none), fun _ => []⟩
def annd54 (_k : List Int) (s n : Int) : Nat → St → Option Ann := fun _ _ => some ⟨Nat, [3], [0], fun i => [(9, .v (.int .i64) (i : Int)), (8, .v (.int .u64) (n % 18446744073709551616 / 256 ^ i)), (7, .v .str (bytesOf (s :: (nbytes n).take i)))], fun _ => [], fun i => i ≤ 8, fun i => 8 - i⟩
def outd54 (k : List Int) (s n : Int) : COut := ⟨[], .v (.int .u64) (numK k s n), [], []⟩
def spd54 : Spec := fun args ins => match args, ins with
  | [⟨.arr 16 (.int .u8), k⟩, ⟨.int .u8, s⟩, ⟨.int .i64, n⟩], [] => some (outd54 k s n)
  | _, _ => none
def Gd54 := addG Gd82 54 spd54
def Pd54 (k : List Int) (s n : Int) : Prop :=
  (1 : Nat) ≤ (1 : Nat) ∧ ∃ (x : Nat), (((0 : Nat) = (0 : Nat) ∧ bytesOf (seg (s :: List.replicate (nat_lit 0) (0 : Int)) (0 : Nat) (1 : Nat)) = bytesOf (s :: List.take x (nbytes n)) ∧ IntKind.wrap IntKind.u64 n = n %
  (18446744073709551616 : Int) / (256 : Int) ^ x ∧ (0 : Int) = (↑x : Int) ∧ k = k ∧ false = false) ∧ x ≤ (8 : Nat)) ∧ ∀ (x : Nat), x ≤ (8 : Nat) → IntKind.min IntKind.i64 ≤ (↑x : Int) ∧ (↑x : Int) ≤ IntKind.max IntKind.i64
  ∧ IntKind.min IntKind.u64 ≤ n % (18446744073709551616 : Int) / (256 : Int) ^ x ∧ n % (18446744073709551616 : Int) / (256 : Int) ^ x ≤ IntKind.max IntKind.u64 ∧ ByteArray.size (bytesOf (s :: List.take x (nbytes n))) ≤
  (9223372036854775807 : Nat) → bif decide ((↑x : Int) < (8 : Int)) then ((256 : Int) ≠ (0 : Int) ∧ (1 : Nat) ≤ (1 : Nat) ∧ ByteArray.size (bytesOf (s :: List.take x (nbytes n))) + ByteArray.size (bytesOf (seg (IntKind.wrap
  IntKind.u8 (Int.tmod (n % (18446744073709551616 : Int) / (256 : Int) ^ x) (256 : Int)) :: List.replicate (nat_lit 0) (0 : Int)) (0 : Nat) (1 : Nat))) ≤ (9223372036854775807 : Nat)) ∧ (256 : Int) ≠ (0 : Int) ∧ ∃ (y : Nat),
  ((0 : Nat) = (0 : Nat) ∧ ByteArray.append (bytesOf (s :: List.take x (nbytes n))) (bytesOf (seg (IntKind.wrap IntKind.u8 (Int.tmod (n % (18446744073709551616 : Int) / (256 : Int) ^ x) (256 : Int)) :: List.replicate
  (nat_lit 0) (0 : Int)) (0 : Nat) (1 : Nat))) = bytesOf (s :: List.take y (nbytes n)) ∧ IntKind.wrap IntKind.u64 (Int.tdiv (n % (18446744073709551616 : Int) / (256 : Int) ^ x) (256 : Int)) = n % (18446744073709551616 :
  Int) / (256 : Int) ^ y ∧ IntKind.wrap IntKind.i64 ((↑x : Int) + (1 : Int)) = (↑y : Int) ∧ k = k ∧ false = false) ∧ y ≤ (8 : Nat) ∧ (8 : Nat) - y < (8 : Nat) - x else ByteArray.size (bytesOf (s :: List.take x (nbytes n)))
  ≤ (1000000000 : Nat) ∧ sipF k (bytesOf (s :: List.take x (nbytes n))) = numK k s n
theorem vcd54 (k : List Int) (s n : Int) : Pd54 k s n = vcFun Cd54 (annd54 k s n) Go.Proofs.Tryd.f54 [⟨.arr 16 (.int .u8), k⟩, ⟨.int .u8, s⟩, ⟨.int .i64, n⟩] [] (outd54 k s n) := by kernel_rfl

noncomputable def Cd62 : Ctx := ⟨Go.Proofs.Tryd.prog, D, Gd54, (fun _ _ => none), fun _ => []⟩
def annd62 (k : List Int) (s n : Int) : Nat → St → Option Ann := fun id _ => match id with | 0 => some ⟨Nat, [1, 2, 3, 7, 20], [0], fun i => [(21, .v (.int .i64) (i : Int))], fun i => [(1, some ⟨false, false, .int .i64, (iotaI n.toNat).take i ++ (List.replicate n.toNat 0).drop i⟩)], fun i => i ≤ n.toNat, fun i => n.toNat - i⟩ | _ => some ⟨Nat, [1, 3, 7], [0], fun m => [(9, .v (.int .i64) (n - 1 - (m : Int)))], fun m => [(1, some ⟨false, false, .int .i64, ordTo k s n.toNat m⟩)], fun m => m ≤ n.toNat - 1, fun m => n.toNat - 1 - m⟩
def outd62 (k : List Int) (s n : Int) : COut := ⟨[1 ≤ n ∧ n ≤ 256], .v (.ref .slice) (.slice 0 (.int .i64) [] 0 n.toNat), [], [⟨false, false, .int .i64, ordK k s n.toNat⟩]⟩
def spd62 : Spec := fun args ins => match args, ins with
  | [⟨.arr 16 (.int .u8), k⟩, ⟨.int .u8, s⟩, ⟨.int .i64, n⟩], [] => some (outd62 k s n)
  | _, _ => none
def Gd62 := addG Gd54 62 spd62
def Pd62 (k : List Int) (s n : Int) : Prop :=
  ∀ (b : Bool), decide (n < (1 : Int)) = b → (((!b) = true → (!b) = true) ∧ (b = false → (!b) = true)) ∧ bif bif b then true else decide ((256 : Int) < n) then Int.toNat n = (0 : Nat) ∧ ordK k s (Int.toNat n) = [] else ((0
  : Int) ≤ n ∧ n = n ∧ n * (↑(8 : Nat) : Int) ≤ (↑(70368744177664 : Nat) : Int) ∧ n ≤ (↑(70368744177664 : Nat) : Int)) ∧ ∃ (x : Nat), ((s = s ∧ n = n ∧ (0 : Nat) = (0 : Nat) ∧ (0 : Nat) = (0 : Nat) ∧ Int.toNat n = Int.toNat
  n ∧ (↑(Int.toNat n) : Int) = (↑(Int.toNat n) : Int) ∧ (0 : Int) = (↑x : Int) ∧ k = k ∧ false = false ∧ List.replicate (Int.toNat n) (0 : Int) = List.take x (iotaI (Int.toNat n)) ++ List.drop x (List.replicate (Int.toNat
  n) (0 : Int)) ∧ false = false) ∧ x ≤ Int.toNat n) ∧ ∀ (x : Nat), x ≤ Int.toNat n → (IntKind.min IntKind.i64 ≤ (↑x : Int) ∧ (↑x : Int) ≤ IntKind.max IntKind.i64 ∧ ∀ (y : Int), List.Mem y (List.take x (iotaI (Int.toNat n))
  ++ List.drop x (List.replicate (Int.toNat n) (0 : Int))) → IntKind.min IntKind.i64 ≤ y ∧ y ≤ IntKind.max IntKind.i64) → bif decide ((↑x : Int) < (↑(Int.toNat n) : Int)) then (((0 : Int) ≤ (↑x : Int) ∧ (↑x : Int) <
  (↑(Int.toNat n) : Int)) ∧ (0 : Nat) + Int.toNat (↑x : Int) < List.length (List.take x (iotaI (Int.toNat n)) ++ List.drop x (List.replicate (Int.toNat n) (0 : Int)))) ∧ ∃ (y : Nat), (s = s ∧ n = n ∧ (0 : Nat) = (0 : Nat) ∧
  (0 : Nat) = (0 : Nat) ∧ Int.toNat n = Int.toNat n ∧ (↑(Int.toNat n) : Int) = (↑(Int.toNat n) : Int) ∧ IntKind.wrap IntKind.i64 ((↑x : Int) + (1 : Int)) = (↑y : Int) ∧ k = k ∧ false = false ∧ List.set (List.take x (iotaI
  (Int.toNat n)) ++ List.drop x (List.replicate (Int.toNat n) (0 : Int))) ((0 : Nat) + Int.toNat (↑x : Int)) (↑x : Int) = List.take y (iotaI (Int.toNat n)) ++ List.drop y (List.replicate (Int.toNat n) (0 : Int)) ∧ false =
  false) ∧ y ≤ Int.toNat n ∧ Int.toNat n - y < Int.toNat n - x else ∃ (x_1 : Nat), ((s = s ∧ (0 : Nat) = (0 : Nat) ∧ (0 : Nat) = (0 : Nat) ∧ Int.toNat n = Int.toNat n ∧ IntKind.wrap IntKind.i64 (n - (1 : Int)) = n - (1 :
  Int) - (↑x_1 : Int) ∧ k = k ∧ false = false ∧ List.append (List.take x (iotaI (Int.toNat n))) (List.drop x (List.replicate (Int.toNat n) (0 : Int))) = ordTo k s (Int.toNat n) x_1 ∧ false = false) ∧ x_1 ≤ Int.toNat n - (1
  : Nat)) ∧ ∀ (x : Nat), x ≤ Int.toNat n - (1 : Nat) → (IntKind.min IntKind.i64 ≤ n - (1 : Int) - (↑x : Int) ∧ n - (1 : Int) - (↑x : Int) ≤ IntKind.max IntKind.i64 ∧ ∀ (y : Int), List.Mem y (ordTo k s (Int.toNat n) x) →
  IntKind.min IntKind.i64 ≤ y ∧ y ≤ IntKind.max IntKind.i64) → bif decide ((0 : Int) < n - (1 : Int) - (↑x : Int)) then IntKind.wrap IntKind.u64 (IntKind.wrap IntKind.i64 (n - (1 : Int) - (↑x : Int) + (1 : Int))) ≠ (0 :
  Int) ∧ (((0 : Int) ≤ IntKind.wrap IntKind.i64 (Int.tmod (numK k s (n - (1 : Int) - (↑x : Int))) (IntKind.wrap IntKind.u64 (IntKind.wrap IntKind.i64 (n - (1 : Int) - (↑x : Int) + (1 : Int))))) ∧ IntKind.wrap IntKind.i64
  (Int.tmod (numK k s (n - (1 : Int) - (↑x : Int))) (IntKind.wrap IntKind.u64 (IntKind.wrap IntKind.i64 (n - (1 : Int) - (↑x : Int) + (1 : Int))))) < (↑(Int.toNat n) : Int)) ∧ (0 : Nat) + Int.toNat (IntKind.wrap IntKind.i64
  (Int.tmod (numK k s (n - (1 : Int) - (↑x : Int))) (IntKind.wrap IntKind.u64 (IntKind.wrap IntKind.i64 (n - (1 : Int) - (↑x : Int) + (1 : Int)))))) < List.length (ordTo k s (Int.toNat n) x) ∧ ((0 : Int) ≤ n - (1 : Int) -
  (↑x : Int) ∧ n - (1 : Int) - (↑x : Int) < (↑(Int.toNat n) : Int)) ∧ (0 : Nat) + Int.toNat (n - (1 : Int) - (↑x : Int)) < List.length (ordTo k s (Int.toNat n) x) ∧ ((0 : Int) ≤ n - (1 : Int) - (↑x : Int) ∧ n - (1 : Int) -
  (↑x : Int) < (↑(Int.toNat n) : Int)) ∧ (0 : Nat) + Int.toNat (n - (1 : Int) - (↑x : Int)) < List.length (ordTo k s (Int.toNat n) x) ∧ ((0 : Int) ≤ IntKind.wrap IntKind.i64 (Int.tmod (numK k s (n - (1 : Int) - (↑x : Int)))
  (IntKind.wrap IntKind.u64 (IntKind.wrap IntKind.i64 (n - (1 : Int) - (↑x : Int) + (1 : Int))))) ∧ IntKind.wrap IntKind.i64 (Int.tmod (numK k s (n - (1 : Int) - (↑x : Int))) (IntKind.wrap IntKind.u64 (IntKind.wrap
  IntKind.i64 (n - (1 : Int) - (↑x : Int) + (1 : Int))))) < (↑(Int.toNat n) : Int)) ∧ (0 : Nat) + Int.toNat (IntKind.wrap IntKind.i64 (Int.tmod (numK k s (n - (1 : Int) - (↑x : Int))) (IntKind.wrap IntKind.u64 (IntKind.wrap
  IntKind.i64 (n - (1 : Int) - (↑x : Int) + (1 : Int)))))) < List.length (List.set (ordTo k s (Int.toNat n) x) ((0 : Nat) + Int.toNat (n - (1 : Int) - (↑x : Int))) (List.getD (ordTo k s (Int.toNat n) x) ((0 : Nat) +
  Int.toNat (IntKind.wrap IntKind.i64 (Int.tmod (numK k s (n - (1 : Int) - (↑x : Int))) (IntKind.wrap IntKind.u64 (IntKind.wrap IntKind.i64 (n - (1 : Int) - (↑x : Int) + (1 : Int))))))) (0 : Int)))) ∧ ∃ (y : Nat), (s = s ∧
  (0 : Nat) = (0 : Nat) ∧ (0 : Nat) = (0 : Nat) ∧ Int.toNat n = Int.toNat n ∧ IntKind.wrap IntKind.i64 (n - (1 : Int) - (↑x : Int) - (1 : Int)) = n - (1 : Int) - (↑y : Int) ∧ k = k ∧ false = false ∧ List.set (List.set
  (ordTo k s (Int.toNat n) x) ((0 : Nat) + Int.toNat (n - (1 : Int) - (↑x : Int))) (List.getD (ordTo k s (Int.toNat n) x) ((0 : Nat) + Int.toNat (IntKind.wrap IntKind.i64 (Int.tmod (numK k s (n - (1 : Int) - (↑x : Int)))
  (IntKind.wrap IntKind.u64 (IntKind.wrap IntKind.i64 (n - (1 : Int) - (↑x : Int) + (1 : Int))))))) (0 : Int))) ((0 : Nat) + Int.toNat (IntKind.wrap IntKind.i64 (Int.tmod (numK k s (n - (1 : Int) - (↑x : Int)))
  (IntKind.wrap IntKind.u64 (IntKind.wrap IntKind.i64 (n - (1 : Int) - (↑x : Int) + (1 : Int))))))) (List.getD (ordTo k s (Int.toNat n) x) ((0 : Nat) + Int.toNat (n - (1 : Int) - (↑x : Int))) (0 : Int)) = ordTo k s
  (Int.toNat n) y ∧ false = false) ∧ y ≤ Int.toNat n - (1 : Nat) ∧ Int.toNat n - (1 : Nat) - y < Int.toNat n - (1 : Nat) - x else (0 : Nat) = (0 : Nat) ∧ Int.toNat n = Int.toNat n ∧ ordTo k s (Int.toNat n) x = ordK k s
  (Int.toNat n) ∧ false = false
theorem vcd62 (k : List Int) (s n : Int) : Pd62 k s n = vcFun Cd62 (annd62 k s n) Go.Proofs.Tryd.f62 [⟨.arr 16 (.int .u8), k⟩, ⟨.int .u8, s⟩, ⟨.int .i64, n⟩] [] (outd62 k s n) := by kernel_rfl

noncomputable def Cd53 : Ctx := ⟨Go.Proofs.Tryd.prog, D, Gd62, (fun _ _ => none), fun _ => []⟩
def annd53 (k : List Int) (s n : Int) : Nat → St → Option Ann := fun id _ => match id with | 0 => some ⟨Nat, [1, 2, 3], [0], fun i => [(8, .v (.int .i64) (i : Int)), (7, .v (.ref .slice) (.slice 1 (.int .i64) [] 0 i))], fun i => [(1, some ⟨false, false, .int .i64, iotaI i⟩)], fun i => i ≤ n.toNat, fun i => n.toNat - i⟩ | _ => some ⟨Nat, [1, 3, 7], [0], fun m => [(9, .v (.int .i64) (n - 1 - (m : Int)))], fun m => [(1, some ⟨false, false, .int .i64, ordTo k s n.toNat m⟩)], fun m => m ≤ n.toNat - 1, fun m => n.toNat - 1 - m⟩
def outd53 (k : List Int) (s n : Int) : COut := ⟨[1 ≤ n ∧ n ≤ 256], .v (.ref .slice) (.slice 0 (.int .i64) [] 0 n.toNat), [], [⟨false, false, .int .i64, ordK k s n.toNat⟩]⟩
def spd53 : Spec := fun args ins => match args, ins with
  | [⟨.arr 16 (.int .u8), k⟩, ⟨.int .u8, s⟩, ⟨.int .i64, n⟩], [] => some (outd53 k s n)
  | _, _ => none
def Gd53 := addG Gd62 53 spd53
def Pd53 (k : List Int) (s n : Int) : Prop :=
  ∃ (x : Nat), ((s = s ∧ n = n ∧ (0 : Nat) = (0 : Nat) ∧ x = (0 : Nat) ∧ (0 : Int) = (↑x : Int) ∧ k = k ∧ false = false ∧ iotaI x = []) ∧ x ≤ Int.toNat n) ∧ ∀ (x : Nat), x ≤ Int.toNat n → (IntKind.min IntKind.i64 ≤ (↑x :
  Int) ∧ (↑x : Int) ≤ IntKind.max IntKind.i64 ∧ ∀ (y : Int), List.Mem y (iotaI x) → IntKind.min IntKind.i64 ≤ y ∧ y ≤ IntKind.max IntKind.i64) → bif decide ((↑x : Int) < n) then ((1 : Nat) ≤ (1 : Nat) ∧ (0 : Nat) + x =
  List.length (iotaI x) ∧ (x + List.length (seg ((↑x : Int) :: List.replicate (nat_lit 0) (0 : Int)) (0 : Nat) (1 : Nat))) * (8 : Nat) ≤ (70368744177664 : Nat)) ∧ ∃ (y : Nat), (s = s ∧ n = n ∧ (0 : Nat) = (0 : Nat) ∧ (0 :
  Nat) = (0 : Nat) ∧ x + List.length (seg ((↑x : Int) :: List.replicate (nat_lit 0) (0 : Int)) (0 : Nat) (1 : Nat)) = y ∧ IntKind.wrap IntKind.i64 ((↑x : Int) + (1 : Int)) = (↑y : Int) ∧ k = k ∧ false = false ∧ List.append
  (List.drop (0 : Nat) (iotaI x)) (seg ((↑x : Int) :: List.replicate (nat_lit 0) (0 : Int)) (0 : Nat) (1 : Nat)) = iotaI y ∧ false = false) ∧ y ≤ Int.toNat n ∧ Int.toNat n - y < Int.toNat n - x else ∃ (x_1 : Nat), ((s = s ∧
  (0 : Nat) = (0 : Nat) ∧ (0 : Nat) = (0 : Nat) ∧ x = x ∧ IntKind.wrap IntKind.i64 (n - (1 : Int)) = n - (1 : Int) - (↑x_1 : Int) ∧ k = k ∧ false = false ∧ iotaI x = ordTo k s (Int.toNat n) x_1 ∧ false = false) ∧ x_1 ≤
  Int.toNat n - (1 : Nat)) ∧ ∀ (x_2 : Nat), x_2 ≤ Int.toNat n - (1 : Nat) → (IntKind.min IntKind.i64 ≤ n - (1 : Int) - (↑x_2 : Int) ∧ n - (1 : Int) - (↑x_2 : Int) ≤ IntKind.max IntKind.i64 ∧ ∀ (y : Int), List.Mem y (ordTo k
  s (Int.toNat n) x_2) → IntKind.min IntKind.i64 ≤ y ∧ y ≤ IntKind.max IntKind.i64) → bif decide ((1 : Int) ≤ n - (1 : Int) - (↑x_2 : Int)) then IntKind.wrap IntKind.u64 (IntKind.wrap IntKind.i64 (n - (1 : Int) - (↑x_2 :
  Int) + (1 : Int))) ≠ (0 : Int) ∧ (((0 : Int) ≤ n - (1 : Int) - (↑x_2 : Int) ∧ n - (1 : Int) - (↑x_2 : Int) < (↑x : Int)) ∧ (0 : Nat) + Int.toNat (n - (1 : Int) - (↑x_2 : Int)) < List.length (ordTo k s (Int.toNat n) x_2))
  ∧ (((0 : Int) ≤ IntKind.wrap IntKind.i64 (Int.tmod (numK k s (n - (1 : Int) - (↑x_2 : Int))) (IntKind.wrap IntKind.u64 (IntKind.wrap IntKind.i64 (n - (1 : Int) - (↑x_2 : Int) + (1 : Int))))) ∧ IntKind.wrap IntKind.i64
  (Int.tmod (numK k s (n - (1 : Int) - (↑x_2 : Int))) (IntKind.wrap IntKind.u64 (IntKind.wrap IntKind.i64 (n - (1 : Int) - (↑x_2 : Int) + (1 : Int))))) < (↑x : Int)) ∧ (0 : Nat) + Int.toNat (IntKind.wrap IntKind.i64
  (Int.tmod (numK k s (n - (1 : Int) - (↑x_2 : Int))) (IntKind.wrap IntKind.u64 (IntKind.wrap IntKind.i64 (n - (1 : Int) - (↑x_2 : Int) + (1 : Int)))))) < List.length (ordTo k s (Int.toNat n) x_2) ∧ ((0 : Int) ≤ n - (1 :
  Int) - (↑x_2 : Int) ∧ n - (1 : Int) - (↑x_2 : Int) < (↑x : Int)) ∧ (0 : Nat) + Int.toNat (n - (1 : Int) - (↑x_2 : Int)) < List.length (ordTo k s (Int.toNat n) x_2)) ∧ (((0 : Int) ≤ IntKind.wrap IntKind.i64 (Int.tmod (numK
  k s (n - (1 : Int) - (↑x_2 : Int))) (IntKind.wrap IntKind.u64 (IntKind.wrap IntKind.i64 (n - (1 : Int) - (↑x_2 : Int) + (1 : Int))))) ∧ IntKind.wrap IntKind.i64 (Int.tmod (numK k s (n - (1 : Int) - (↑x_2 : Int)))
  (IntKind.wrap IntKind.u64 (IntKind.wrap IntKind.i64 (n - (1 : Int) - (↑x_2 : Int) + (1 : Int))))) < (↑x : Int)) ∧ (0 : Nat) + Int.toNat (IntKind.wrap IntKind.i64 (Int.tmod (numK k s (n - (1 : Int) - (↑x_2 : Int)))
  (IntKind.wrap IntKind.u64 (IntKind.wrap IntKind.i64 (n - (1 : Int) - (↑x_2 : Int) + (1 : Int)))))) < List.length (List.set (ordTo k s (Int.toNat n) x_2) ((0 : Nat) + Int.toNat (n - (1 : Int) - (↑x_2 : Int))) (List.getD
  (ordTo k s (Int.toNat n) x_2) ((0 : Nat) + Int.toNat (IntKind.wrap IntKind.i64 (Int.tmod (numK k s (n - (1 : Int) - (↑x_2 : Int))) (IntKind.wrap IntKind.u64 (IntKind.wrap IntKind.i64 (n - (1 : Int) - (↑x_2 : Int) + (1 :
  Int))))))) (0 : Int)))) ∧ ∃ (y : Nat), (s = s ∧ (0 : Nat) = (0 : Nat) ∧ (0 : Nat) = (0 : Nat) ∧ x = x ∧ IntKind.wrap IntKind.i64 (n - (1 : Int) - (↑x_2 : Int) - (1 : Int)) = n - (1 : Int) - (↑y : Int) ∧ k = k ∧ false =
  false ∧ List.set (List.set (ordTo k s (Int.toNat n) x_2) ((0 : Nat) + Int.toNat (n - (1 : Int) - (↑x_2 : Int))) (List.getD (ordTo k s (Int.toNat n) x_2) ((0 : Nat) + Int.toNat (IntKind.wrap IntKind.i64 (Int.tmod (numK k s
  (n - (1 : Int) - (↑x_2 : Int))) (IntKind.wrap IntKind.u64 (IntKind.wrap IntKind.i64 (n - (1 : Int) - (↑x_2 : Int) + (1 : Int))))))) (0 : Int))) ((0 : Nat) + Int.toNat (IntKind.wrap IntKind.i64 (Int.tmod (numK k s (n - (1
  : Int) - (↑x_2 : Int))) (IntKind.wrap IntKind.u64 (IntKind.wrap IntKind.i64 (n - (1 : Int) - (↑x_2 : Int) + (1 : Int))))))) (List.getD (ordTo k s (Int.toNat n) x_2) ((0 : Nat) + Int.toNat (n - (1 : Int) - (↑x_2 : Int)))
  (0 : Int)) = ordTo k s (Int.toNat n) y ∧ false = false) ∧ y ≤ Int.toNat n - (1 : Nat) ∧ Int.toNat n - (1 : Nat) - y < Int.toNat n - (1 : Nat) - x_2 else (0 : Nat) = (0 : Nat) ∧ x = Int.toNat n ∧ ordTo k s (Int.toNat n)
  x_2 = ordK k s (Int.toNat n) ∧ false = false
theorem vcd53 (k : List Int) (s n : Int) : Pd53 k s n = vcFun Cd53 (annd53 k s n) Go.Proofs.Tryd.f53 [⟨.arr 16 (.int .u8), k⟩, ⟨.int .u8, s⟩, ⟨.int .i64, n⟩] [] (outd53 k s n) := by kernel_rfl

noncomputable def Cd61 : Ctx := ⟨Go.Proofs.Tryd.prog, D, Gd53, (fun _ _ => none), fun _ => []⟩
def annd61 (_n : Int) : Nat → St → Option Ann := fun _ _ => none
def outd61 (n : Int) : COut := ⟨[], .v (.int .i64) (n % 1016), [], []⟩
def spd61 : Spec := fun args ins => match args, ins with
  | [⟨.int .i64, n⟩], [] => some (outd61 n)
  | _, _ => none
def Gd61 := addG Gd53 61 spd61
def Pd61 (n : Int) : Prop :=
  ((1016 : Int) ≠ (0 : Int) ∧ (1016 : Int) ≠ (0 : Int)) ∧ Int.tmod (IntKind.wrap IntKind.i64 (Int.tmod n (1016 : Int) + (1016 : Int))) (1016 : Int) = n % (1016 : Int)
theorem vcd61 (n : Int) : Pd61 n = vcFun Cd61 (annd61 n) Go.Proofs.Tryd.f61 [⟨.int .i64, n⟩] [] (outd61 n) := by kernel_rfl

noncomputable def Cd52 : Ctx := ⟨Go.Proofs.Tryd.prog, D, Gd61, (fun _ _ => none), fun _ => []⟩
def annd52 (_n : Int) : Nat → St → Option Ann := fun _ _ => none
def outd52 (n : Int) : COut := ⟨[], .v (.int .i64) (n % 1016), [], []⟩
def spd52 : Spec := fun args ins => match args, ins with
  | [⟨.int .i64, n⟩], [] => some (outd52 n)
  | _, _ => none
def Gd52 := addG Gd61 52 spd52
def Pd52 (n : Int) : Prop :=
  (1016 : Int) ≠ (0 : Int) ∧ bif decide (Int.tmod n (1016 : Int) < (0 : Int)) then IntKind.wrap IntKind.i64 (Int.tmod n (1016 : Int) + (1016 : Int)) = n % (1016 : Int) else Int.tmod n (1016 : Int) = n % (1016 : Int)
theorem vcd52 (n : Int) : Pd52 n = vcFun Cd52 (annd52 n) Go.Proofs.Tryd.f52 [⟨.int .i64, n⟩] [] (outd52 n) := by kernel_rfl

noncomputable def Cd24 : Ctx := ⟨Go.Proofs.Tryd.prog, D, Gd52, (fun _ _ => none), fun _ => []⟩
def annd24 (_k : List Int) (_n : Int) : Nat → St → Option Ann := fun _ _ => none
def outd24 (k : List Int) (n : Int) : COut := ⟨[], .v (.int .i64) (bandK k n), [], []⟩
def spd24 : Spec := fun args ins => match args, ins with
  | [⟨.arr 16 (.int .u8), k⟩, ⟨.int .i64, n⟩], [] => some (outd24 k n)
  | _, _ => none
def Gd24 := addG Gd52 24 spd24
def Pd24 (k : List Int) (n : Int) : Prop :=
  ((8 : Int) ≠ (0 : Int) ∧ ((1 : Int) ≤ (8 : Int) ∧ (8 : Int) ≤ (256 : Int)) ∧ (8 : Int) ≠ (0 : Int) ∧ ((0 : Int) ≤ Int.tmod (n % (1016 : Int)) (8 : Int) ∧ Int.tmod (n % (1016 : Int)) (8 : Int) < (↑(8 : Nat) : Int)) ∧ (0 :
  Nat) + Int.toNat (Int.tmod (n % (1016 : Int)) (8 : Int)) < List.length (ordK k (IntKind.wrap IntKind.u8 (IntKind.wrap IntKind.i64 ((128 : Int) + IntKind.wrap IntKind.i64 (Int.tdiv (n % (1016 : Int)) (8 : Int))))) (8 :
  Nat))) ∧ List.getD (ordK k (IntKind.wrap IntKind.u8 (IntKind.wrap IntKind.i64 ((128 : Int) + IntKind.wrap IntKind.i64 (Int.tdiv (n % (1016 : Int)) (8 : Int))))) (8 : Nat)) ((0 : Nat) + Int.toNat (Int.tmod (n % (1016 :
  Int)) (8 : Int))) (0 : Int) = bandK k n
theorem vcd24 (k : List Int) (n : Int) : Pd24 k n = vcFun Cd24 (annd24 k n) Go.Proofs.Tryd.f24 [⟨.arr 16 (.int .u8), k⟩, ⟨.int .i64, n⟩] [] (outd24 k n) := by kernel_rfl

noncomputable def Cd18 : Ctx := ⟨Go.Proofs.Tryd.prog, D, Gd24, (fun _ _ => none), fun _ => []⟩
def annd18 (_k : List Int) (_n : Int) : Nat → St → Option Ann := fun _ _ => none
def outd18 (k : List Int) (n : Int) : COut := ⟨[], .v (.int .i64) (bandK k n), [], []⟩
def spd18 : Spec := fun args ins => match args, ins with
  | [⟨.arr 16 (.int .u8), k⟩, ⟨.int .i64, n⟩], [] => some (outd18 k n)
  | _, _ => none
def Gd18 := addG Gd24 18 spd18
def Pd18 (k : List Int) (n : Int) : Prop :=
  ((8 : Int) ≠ (0 : Int) ∧ ((1 : Int) ≤ (8 : Int) ∧ (8 : Int) ≤ (256 : Int)) ∧ (8 : Int) ≠ (0 : Int) ∧ ((0 : Int) ≤ Int.tmod (n % (1016 : Int)) (8 : Int) ∧ Int.tmod (n % (1016 : Int)) (8 : Int) < (↑(8 : Nat) : Int)) ∧ (0 :
  Nat) + Int.toNat (Int.tmod (n % (1016 : Int)) (8 : Int)) < List.length (ordK k (IntKind.wrap IntKind.u8 (IntKind.wrap IntKind.i64 ((128 : Int) + IntKind.wrap IntKind.i64 (Int.tdiv (n % (1016 : Int)) (8 : Int))))) (8 :
  Nat))) ∧ List.getD (ordK k (IntKind.wrap IntKind.u8 (IntKind.wrap IntKind.i64 ((128 : Int) + IntKind.wrap IntKind.i64 (Int.tdiv (n % (1016 : Int)) (8 : Int))))) (8 : Nat)) ((0 : Nat) + Int.toNat (Int.tmod (n % (1016 :
  Int)) (8 : Int))) (0 : Int) = bandK k n
theorem vcd18 (k : List Int) (n : Int) : Pd18 k n = vcFun Cd18 (annd18 k n) Go.Proofs.Tryd.f18 [⟨.arr 16 (.int .u8), k⟩, ⟨.int .i64, n⟩] [] (outd18 k n) := by kernel_rfl

noncomputable def Cd55 : Ctx := ⟨Go.Proofs.Tryd.prog, D, Gd18, (fun _ _ => none), fun _ => []⟩
def annd55 (x i : Int) : Nat → St → Option Ann := fun _ _ => some ⟨Nat, [1], [], fun j => [(5, .v (.int .i64) (j : Int)), (0, .v (.int .u64) (x / 2 ^ j))], fun _ => [], fun j => j ≤ i.toNat, fun j => i.toNat - j⟩
def outd55 (x i : Int) : COut := ⟨[0 ≤ i ∧ i ≤ 100], .v (.int .i64) (if bitX x i.toNat then 1 else 0), [], []⟩
def spd55 : Spec := fun args ins => match args, ins with
  | [⟨.int .u64, x⟩, ⟨.int .i64, i⟩], [] => some (outd55 x i)
  | _, _ => none
def Gd55 := addG Gd18 55 spd55
def Pd55 (x i : Int) : Prop :=
  ∃ (x_1 : Nat), ((x = x / (2 : Int) ^ x_1 ∧ i = i ∧ (0 : Int) = (↑x_1 : Int)) ∧ x_1 ≤ Int.toNat i) ∧ ∀ (x_2 : Nat), x_2 ≤ Int.toNat i → IntKind.min IntKind.i64 ≤ (↑x_2 : Int) ∧ (↑x_2 : Int) ≤ IntKind.max IntKind.i64 ∧
  IntKind.min IntKind.u64 ≤ x / (2 : Int) ^ x_2 ∧ x / (2 : Int) ^ x_2 ≤ IntKind.max IntKind.u64 → bif decide ((↑x_2 : Int) < i) then (2 : Int) ≠ (0 : Int) ∧ ∃ (y : Nat), (IntKind.wrap IntKind.u64 (Int.tdiv (x / (2 : Int) ^
  x_2) (2 : Int)) = x / (2 : Int) ^ y ∧ i = i ∧ IntKind.wrap IntKind.i64 ((↑x_2 : Int) + (1 : Int)) = (↑y : Int)) ∧ y ≤ Int.toNat i ∧ Int.toNat i - y < Int.toNat i - x_2 else (2 : Int) ≠ (0 : Int) ∧ IntKind.wrap IntKind.i64
  (Int.tmod (x / (2 : Int) ^ x_2) (2 : Int)) = if bitX x (Int.toNat i) = true then (1 : Int) else (0 : Int)
theorem vcd55 (x i : Int) : Pd55 x i = vcFun Cd55 (annd55 x i) Go.Proofs.Tryd.f55 [⟨.int .u64, x⟩, ⟨.int .i64, i⟩] [] (outd55 x i) := by kernel_rfl

end Go.SL.A

/- What a key makes of a number. -/
namespace Go.SL.A
open Go Go.SL Go.SL.S
set_option maxRecDepth 100000

theorem hwd109 {i x : Int} (hw : Go.SL.allP (List.flatMap (fun a : AV => a.t.wf a.x) [⟨.int .i64, i⟩, ⟨.ref .ptr, .ptr 0 (.int .u64) [0]⟩] ++ List.flatMap Blk.wf [⟨false, true, .int .u64, [x]⟩])) : 0 ≤ x ∧ x ≤ 18446744073709551615 := by
  simp only [List.flatMap_cons, List.flatMap_nil, Ty.wf, Blk.wf, List.append_nil, List.cons_append, List.nil_append, Go.SL.allP] at hw
  exact hw.2.2 x (List.Mem.head _)
theorem pured109 (i x : Int) (hp : 0 ≤ i ∧ i < 64) (hx : 0 ≤ x ∧ x ≤ 18446744073709551615) : Pd109 i x := by
  unfold Pd109
  refine ⟨hp.1, ?_⟩
  obtain ⟨n, rfl⟩ : ∃ n : Nat, i = n := ⟨i.toNat, by omega⟩
  rw [Int.toNat_natCast]
  exact ⟨bit_shr hx (i := n) (by omega), rfl, rfl⟩
theorem pured81 (x : Int) : Pd81 x := by
  unfold Pd81; trivial

theorem nbytes_len (n : Int) : (nbytes n).length = 8 := by simp [nbytes]
theorem nbytes_step (n : Int) {i : Nat} (hi : i < 8) : (nbytes n).take i ++ [n % 18446744073709551616 / 256 ^ i % 256] = (nbytes n).take (i + 1) := by
  rw [take_snoc' (0 : Int) (by rw [nbytes_len]; exact hi)]
  congr 1
  unfold nbytes
  rw [List.getD_eq_getElem?_getD, List.getElem?_map, List.getElem?_range hi]; rfl
theorem shr_byteU (p : Int) {i : Nat} (hi : i < 8) : IntKind.u8.wrap (ishr .u64 p (8 * (i : Int))) = p / 256 ^ i % 256 := by
  unfold ishr
  have e : min (8 * (i : Int)).toNat IntKind.u64.bits = 8 * i := by
    have : IntKind.u64.bits = 64 := rfl
    omega
  rw [e, pow8, Int.fdiv_eq_ediv_of_nonneg _ (Int.le_of_lt (pow256 i)), wrap_u8]
theorem numK_fit (k : List Int) (s n : Int) : 0 ≤ numK k s n ∧ numK k s n < 18446744073709551616 := sip_fit _ _

theorem pured82 (k : List Int) (s n : Int) : Pd82 k s n := by
  unfold Pd82
  simp only [eq_self, true_and, and_true, Nat.zero_add, sg1, List.length_singleton, List.length_cons, List.length_nil, List.length_take, nbytes_len]
  refine ⟨0, ⟨⟨rfl, rfl, rfl⟩, by omega⟩, fun i hi hw => ?_⟩
  clear hw
  by_cases h : (i : Int) < 8
  · have e : IntKind.i64.wrap (8 * (i : Int)) = 8 * (i : Int) := w64 (by omega) (by omega)
    rw [decide_eq_true h, cond_true, e, wrap_u64, shr_byteU _ (by omega)]
    refine ⟨⟨by omega, by omega, by omega, by omega⟩, i + 1, ⟨rfl, step_i (by omega), ?_⟩, by omega, by omega⟩
    exact congrArg (fun l => s :: l) (nbytes_step n (by omega))
  · have : i = 8 := by omega
    subst this
    have e1 : List.take 8 (nbytes n) = nbytes n := List.take_of_length_le (by rw [nbytes_len]; exact Nat.le_refl _)
    have e2 : seg (s :: nbytes n) 0 (8 + 1) = s :: nbytes n := by
      unfold seg
      rw [List.drop_zero, List.take_of_length_le (by rw [List.length_cons, nbytes_len]; exact Nat.le_refl _)]
    rw [decide_eq_false h, cond_false, e1, e2, size_of, List.length_cons, nbytes_len]
    exact ⟨⟨by omega, by omega⟩, rfl⟩

theorem pured54 (k : List Int) (s n : Int) : Pd54 k s n := by
  unfold Pd54
  simp only [eq_self, true_and, and_true, sg1, size_of, List.length_singleton, List.length_cons, List.length_nil, List.length_take, nbytes_len, bytes_append]
  refine ⟨by omega, 0, ⟨⟨rfl, by rw [wrap_u64, Int.pow_zero, Int.ediv_one], rfl⟩, by omega⟩, fun i hi hw => ?_⟩
  clear hw
  by_cases h : (i : Int) < 8
  · have hp : 0 ≤ n % 18446744073709551616 := Int.emod_nonneg _ (by decide)
    have hp2 : n % 18446744073709551616 < 18446744073709551616 := Int.emod_lt_of_pos _ (by decide)
    have hq : 0 ≤ n % 18446744073709551616 / 256 ^ i ∧ n % 18446744073709551616 / 256 ^ i ≤ n % 18446744073709551616 := ⟨Int.ediv_nonneg hp (Int.le_of_lt (pow256 i)), Int.ediv_le_self _ hp⟩
    have hnext : n % 18446744073709551616 / 256 ^ (i + 1) = n % 18446744073709551616 / 256 ^ i / 256 := by rw [Int.pow_succ, Int.ediv_ediv_of_nonneg (Int.le_of_lt (pow256 i))]
    have hst := nbytes_step n (i := i) (by omega)
    rw [decide_eq_true h, cond_true]
    generalize n % 18446744073709551616 / 256 ^ i = q at *
    have d := tdm q (k := 256) (by decide)
    have e1 : IntKind.u8.wrap (q.tmod 256) = q % 256 := by rw [wrap_u8]; omega
    have e2 : IntKind.u64.wrap (q.tdiv 256) = q / 256 := by rw [w_u64 (by omega) (by omega)]; omega
    rw [e1, e2]
    refine ⟨⟨by decide, by omega, by omega⟩, by decide, i + 1, ⟨?_, hnext.symm, step_i (by omega)⟩, by omega, by omega⟩
    rw [List.cons_append, hst]
  · have : i = 8 := by omega
    subst this
    have e1 : List.take 8 (nbytes n) = nbytes n := List.take_of_length_le (by rw [nbytes_len]; exact Nat.le_refl _)
    rw [decide_eq_false h, cond_false, e1]
    exact ⟨by omega, rfl⟩

theorem ord_len (k : List Int) (s : Int) (n m : Nat) : (ordTo k s n m).length = n := by
  induction m with
  | zero => simp [ordTo, iotaI]
  | succ m ih => rw [ordTo, swpI, List.length_set, List.length_set, ih]
theorem ord_step (k : List Int) (s : Int) (n m : Nat) : List.set (List.set (ordTo k s n m) (n - 1 - m) (List.getD (ordTo k s n m) (numK k s ((n - 1 - m : Nat) : Int) % ((n - m : Nat) : Int)).toNat 0)) (numK k s ((n - 1 - m : Nat) : Int) % ((n - m : Nat) : Int)).toNat (List.getD (ordTo k s n m) (n - 1 - m) 0) = ordTo k s n (m + 1) := rfl
theorem iota_len (n : Nat) : (iotaI n).length = n := by simp [iotaI]
theorem iota_at {n i : Nat} (hi : i < n) : (iotaI n)[i]? = some (i : Int) := by
  unfold iotaI; rw [List.getElem?_map, List.getElem?_range hi]; rfl
theorem iota_step (n : Nat) : iotaI n ++ [(n : Int)] = iotaI (n + 1) := by
  unfold iotaI
  rw [List.range_succ, List.map_append]; rfl

theorem pured62 (k : List Int) (s n : Int) (hp : 1 ≤ n ∧ n ≤ 256) : Pd62 k s n := by
  obtain ⟨N, rfl⟩ : ∃ N : Nat, n = N := ⟨n.toNat, by omega⟩
  unfold Pd62
  simp only [eq_self, true_and, and_true, Int.toNat_natCast, Nat.zero_add, ord_len, List.length_set]
  intro b hb
  have hb : false = b := by rw [← hb]; exact (decide_eq_false (by omega)).symm
  subst hb
  refine ⟨by simp, ?_⟩
  rw [cond_false, decide_eq_false (by omega), cond_false]
  refine ⟨⟨by omega, by omega, by omega⟩, 0, ⟨⟨rfl, rfl⟩, by omega⟩, fun i hi hw => ?_⟩
  clear hw
  by_cases h : (i : Int) < (N : Int)
  · rw [decide_eq_true h, cond_true]
    refine ⟨⟨⟨by omega, by omega⟩, by rw [List.length_append, List.length_take, List.length_drop, List.length_replicate, iota_len]; omega⟩, i + 1, ⟨step_i (by omega), set_step (by rw [iota_len]; omega) (by rw [List.length_replicate]; omega) (iota_at (by omega))⟩, by omega, by omega⟩
  · have : i = N := by omega
    subst this
    rw [decide_eq_false h, cond_false]
    refine ⟨0, ⟨⟨by rw [w64 (by omega) (by omega)]; omega, ?_⟩, by omega⟩, fun m hm hw => ?_⟩
    · show List.take i (iotaI i) ++ List.drop i (List.replicate i 0) = ordTo k s i 0
      rw [List.take_of_length_le (by rw [iota_len]; exact Nat.le_refl _), List.drop_eq_nil_of_le (by rw [List.length_replicate]; exact Nat.le_refl _), List.append_nil]; rfl
    clear hw
    have e0 : (i : Int) - 1 - (m : Int) = ((i - 1 - m : Nat) : Int) := by omega
    rw [e0]
    by_cases h2 : (0 : Int) < ((i - 1 - m : Nat) : Int)
    · have hf := numK_fit k s ((i - 1 - m : Nat) : Int)
      have hst := ord_step k s i m
      have e1 : IntKind.i64.wrap (((i - 1 - m : Nat) : Int) + 1) = ((i - m : Nat) : Int) := by rw [w64 (by omega) (by omega)]; omega
      have e2 : IntKind.u64.wrap ((i - m : Nat) : Int) = ((i - m : Nat) : Int) := w_u64 (by omega) (by omega)
      have e5 : IntKind.i64.wrap (((i - 1 - m : Nat) : Int) - 1) = (i : Int) - 1 - ((m + 1 : Nat) : Int) := by rw [w64 (by omega) (by omega)]; omega
      rw [decide_eq_true h2, cond_true, e1, e2, e5, Int.tmod_eq_emod_of_nonneg hf.1]
      generalize numK k s ((i - 1 - m : Nat) : Int) = x at *
      have r1 := Int.emod_nonneg x (b := ((i - m : Nat) : Int)) (by omega)
      have r2 := Int.emod_lt_of_pos x (b := ((i - m : Nat) : Int)) (by omega)
      have e4 : IntKind.i64.wrap (x % ((i - m : Nat) : Int)) = x % ((i - m : Nat) : Int) := w64 (by omega) (by omega)
      rw [e4, Int.toNat_natCast]
      exact ⟨by omega, ⟨⟨by omega, by omega⟩, by omega, ⟨by omega, by omega⟩, by omega, ⟨by omega, by omega⟩, by omega, ⟨by omega, by omega⟩, by omega⟩, m + 1, ⟨rfl, hst⟩, by omega, by omega⟩
    · have : m = i - 1 := by omega
      rw [decide_eq_false h2, cond_false, this]; rfl

theorem pured53 (k : List Int) (s n : Int) (hp : 1 ≤ n ∧ n ≤ 256) : Pd53 k s n := by
  obtain ⟨N, rfl⟩ : ∃ N : Nat, n = N := ⟨n.toNat, by omega⟩
  unfold Pd53
  simp only [eq_self, true_and, and_true, Int.toNat_natCast, Nat.zero_add, ord_len, List.length_set, iota_len, sg1, List.length_singleton]
  refine ⟨0, ⟨⟨rfl, rfl, rfl⟩, by omega⟩, fun i hi hw => ?_⟩
  clear hw
  by_cases h : (i : Int) < (N : Int)
  · rw [decide_eq_true h, cond_true]
    refine ⟨⟨by omega, by omega⟩, i + 1, ⟨rfl, step_i (by omega), ?_⟩, by omega, by omega⟩
    show List.drop 0 (iotaI i) ++ [(i : Int)] = _
    rw [List.drop_zero, iota_step]
  · have : i = N := by omega
    subst this
    rw [decide_eq_false h, cond_false]
    refine ⟨0, ⟨⟨by rw [w64 (by omega) (by omega)]; omega, rfl⟩, by omega⟩, fun m hm hw => ?_⟩
    clear hw
    have e0 : (i : Int) - 1 - (m : Int) = ((i - 1 - m : Nat) : Int) := by omega
    rw [e0]
    by_cases h2 : (1 : Int) ≤ ((i - 1 - m : Nat) : Int)
    · have hf := numK_fit k s ((i - 1 - m : Nat) : Int)
      have hst := ord_step k s i m
      have e1 : IntKind.i64.wrap (((i - 1 - m : Nat) : Int) + 1) = ((i - m : Nat) : Int) := by rw [w64 (by omega) (by omega)]; omega
      have e2 : IntKind.u64.wrap ((i - m : Nat) : Int) = ((i - m : Nat) : Int) := w_u64 (by omega) (by omega)
      have e5 : IntKind.i64.wrap (((i - 1 - m : Nat) : Int) - 1) = (i : Int) - 1 - ((m + 1 : Nat) : Int) := by rw [w64 (by omega) (by omega)]; omega
      rw [decide_eq_true h2, cond_true, e1, e2, e5, Int.tmod_eq_emod_of_nonneg hf.1]
      generalize numK k s ((i - 1 - m : Nat) : Int) = x at *
      have r1 := Int.emod_nonneg x (b := ((i - m : Nat) : Int)) (by omega)
      have r2 := Int.emod_lt_of_pos x (b := ((i - m : Nat) : Int)) (by omega)
      have e4 : IntKind.i64.wrap (x % ((i - m : Nat) : Int)) = x % ((i - m : Nat) : Int) := w64 (by omega) (by omega)
      rw [e4, Int.toNat_natCast]
      exact ⟨by omega, ⟨⟨by omega, by omega⟩, by omega⟩, ⟨⟨by omega, by omega⟩, by omega, ⟨by omega, by omega⟩, by omega⟩, ⟨⟨by omega, by omega⟩, by omega⟩, m + 1, ⟨rfl, hst⟩, by omega, by omega⟩
    · have : m = i - 1 := by omega
      rw [decide_eq_false h2, cond_false, this]; exact ⟨rfl, rfl⟩

theorem pured61 (n : Int) : Pd61 n := by
  unfold Pd61
  have d := tdm n (k := 1016) (by decide)
  have e1 : IntKind.i64.wrap (n.tmod 1016 + 1016) = n.tmod 1016 + 1016 := w64 (by omega) (by omega)
  have d2 := tdm (n.tmod 1016 + 1016) (k := 1016) (by decide)
  rw [e1]
  exact ⟨⟨by decide, by decide⟩, by omega⟩
theorem pured52 (n : Int) : Pd52 n := by
  unfold Pd52
  have d := tdm n (k := 1016) (by decide)
  refine ⟨by decide, ?_⟩
  by_cases h : n.tmod 1016 < 0
  · rw [decide_eq_true h, cond_true, w64 (by omega) (by omega)]; omega
  · rw [decide_eq_false h, cond_false]; omega

theorem ordK_len (k : List Int) (s : Int) (n : Nat) : (ordK k s n).length = n := ord_len _ _ _ _
theorem band_num (n : Int) : IntKind.u8.wrap (IntKind.i64.wrap (128 + IntKind.i64.wrap ((n % 1016).tdiv 8))) = 128 + n % 1016 / 8 ∧ (n % 1016).tmod 8 = n % 1016 % 8 := by
  have d := tdm (n % 1016) (k := 8) (by decide)
  have e1 : IntKind.i64.wrap ((n % 1016).tdiv 8) = n % 1016 / 8 := by rw [w64 (by omega) (by omega)]; omega
  refine ⟨?_, by omega⟩
  rw [e1, w64 (by omega) (by omega), wrap_u8]; omega
theorem pured24 (k : List Int) (n : Int) : Pd24 k n := by
  unfold Pd24
  obtain ⟨e1, e2⟩ := band_num n
  rw [e1, e2, ordK_len, Nat.zero_add]
  exact ⟨⟨by decide, ⟨by decide, by decide⟩, by decide, ⟨by omega, by omega⟩, by omega⟩, rfl⟩
theorem pured18 (k : List Int) (n : Int) : Pd18 k n := by
  unfold Pd18
  obtain ⟨e1, e2⟩ := band_num n
  rw [e1, e2, ordK_len, Nat.zero_add]
  exact ⟨⟨by decide, ⟨by decide, by decide⟩, by decide, ⟨by omega, by omega⟩, by omega⟩, rfl⟩

theorem hwd55 {x i : Int} (hw : Go.SL.allP (List.flatMap (fun a : AV => a.t.wf a.x) [⟨.int .u64, x⟩, ⟨.int .i64, i⟩] ++ List.flatMap Blk.wf [])) : 0 ≤ x ∧ x < 18446744073709551616 := hwd120 hw
theorem pured55 (x i : Int) (hp : 0 ≤ i ∧ i ≤ 100) (hx : 0 ≤ x ∧ x < 18446744073709551616) : Pd55 x i := by
  unfold Pd55
  simp only [eq_self, true_and, and_true]
  have hq : ∀ j : Nat, 0 ≤ x / 2 ^ j ∧ x / 2 ^ j ≤ x := fun j => ⟨Int.ediv_nonneg hx.1 (Int.le_of_lt (Int.pow_pos (by decide))), Int.ediv_le_self _ hx.1⟩
  refine ⟨0, ⟨⟨by rw [Int.pow_zero, Int.ediv_one], rfl⟩, by omega⟩, fun j hj hw => ?_⟩
  clear hw
  have hj2 := hq j
  by_cases h : (j : Int) < i
  · have hnext : x / 2 ^ (j + 1) = x / 2 ^ j / 2 := by rw [Int.pow_succ, Int.ediv_ediv_of_nonneg (Int.le_of_lt (Int.pow_pos (by decide)))]
    rw [decide_eq_true h, cond_true]
    have d := tdm (x / 2 ^ j) (k := 2) (by decide)
    exact ⟨by decide, j + 1, ⟨by rw [hnext, w_u64 (by omega) (by omega)]; omega, step_i (by omega)⟩, by omega, by omega⟩
  · have : j = i.toNat := by omega
    have d := tdm (x / 2 ^ j) (k := 2) (by decide)
    rw [decide_eq_false h, cond_false]
    refine ⟨by decide, ?_⟩
    unfold bitX
    rw [← this, w64 (by omega) (by omega)]
    by_cases hb : x / 2 ^ j % 2 = 1
    · rw [decide_eq_true hb, if_pos rfl]; omega
    · rw [decide_eq_false hb, if_neg (by simp)]; omega
end Go.SL.A

/- Functions do what they are held to do. -/
namespace Go.SL.A
open Go Go.SL Go.SL.S
theorem sndd109 : Sound Go.Proofs.Tryd.prog Gd109 := sndd73.add ⟨_, Go.Proofs.Tryd.func109, by kernel_rfl, by kernel_rfl⟩ (by
  intro args ins out h hp
  unfold spd109 at h
  split at h
  · rename_i i x
    cases h
    exact vcFun_ok (C := Cd109) good sndd73 Meth.none mix Go.Proofs.Tryd.func109 (annd109 i x) (fun hw => by rw [← vcd109 i x]; exact pured109 i x hp (hwd109 hw))
  · cases h)

theorem sndd81 : Sound Go.Proofs.Tryd.prog Gd81 := sndd109.add ⟨_, Go.Proofs.Tryd.func81, by kernel_rfl, by kernel_rfl⟩ (by
  intro args ins out h hp
  unfold spd81 at h
  split at h
  · rename_i x
    cases h
    exact vcFun_ok (C := Cd81) good sndd109 Meth.none mix Go.Proofs.Tryd.func81 (annd81 x) (fun hw => by rw [← vcd81 x]; exact pured81 x)
  · cases h)

theorem sndd82 : Sound Go.Proofs.Tryd.prog Gd82 := sndd81.add ⟨_, Go.Proofs.Tryd.func82, by kernel_rfl, by kernel_rfl⟩ (by
  intro args ins out h hp
  unfold spd82 at h
  split at h
  · rename_i k s n
    cases h
    exact vcFun_ok (C := Cd82) good sndd81 Meth.none mix Go.Proofs.Tryd.func82 (annd82 k s n) (fun hw => by rw [← vcd82 k s n]; exact pured82 k s n)
  · cases h)

theorem sndd54 : Sound Go.Proofs.Tryd.prog Gd54 := sndd82.add ⟨_, Go.Proofs.Tryd.func54, by kernel_rfl, by kernel_rfl⟩ (by
  intro args ins out h hp
  unfold spd54 at h
  split at h
  · rename_i k s n
    cases h
    exact vcFun_ok (C := Cd54) good sndd82 Meth.none mix Go.Proofs.Tryd.func54 (annd54 k s n) (fun hw => by rw [← vcd54 k s n]; exact pured54 k s n)
  · cases h)

theorem sndd62 : Sound Go.Proofs.Tryd.prog Gd62 := sndd54.add ⟨_, Go.Proofs.Tryd.func62, by kernel_rfl, by kernel_rfl⟩ (by
  intro args ins out h hp
  unfold spd62 at h
  split at h
  · rename_i k s n
    cases h
    exact vcFun_ok (C := Cd62) good sndd54 Meth.none mix Go.Proofs.Tryd.func62 (annd62 k s n) (fun hw => by rw [← vcd62 k s n]; exact pured62 k s n hp)
  · cases h)

theorem sndd53 : Sound Go.Proofs.Tryd.prog Gd53 := sndd62.add ⟨_, Go.Proofs.Tryd.func53, by kernel_rfl, by kernel_rfl⟩ (by
  intro args ins out h hp
  unfold spd53 at h
  split at h
  · rename_i k s n
    cases h
    exact vcFun_ok (C := Cd53) good sndd62 Meth.none mix Go.Proofs.Tryd.func53 (annd53 k s n) (fun hw => by rw [← vcd53 k s n]; exact pured53 k s n hp)
  · cases h)

theorem sndd61 : Sound Go.Proofs.Tryd.prog Gd61 := sndd53.add ⟨_, Go.Proofs.Tryd.func61, by kernel_rfl, by kernel_rfl⟩ (by
  intro args ins out h hp
  unfold spd61 at h
  split at h
  · rename_i n
    cases h
    exact vcFun_ok (C := Cd61) good sndd53 Meth.none mix Go.Proofs.Tryd.func61 (annd61 n) (fun hw => by rw [← vcd61 n]; exact pured61 n)
  · cases h)

theorem sndd52 : Sound Go.Proofs.Tryd.prog Gd52 := sndd61.add ⟨_, Go.Proofs.Tryd.func52, by kernel_rfl, by kernel_rfl⟩ (by
  intro args ins out h hp
  unfold spd52 at h
  split at h
  · rename_i n
    cases h
    exact vcFun_ok (C := Cd52) good sndd61 Meth.none mix Go.Proofs.Tryd.func52 (annd52 n) (fun hw => by rw [← vcd52 n]; exact pured52 n)
  · cases h)

theorem sndd24 : Sound Go.Proofs.Tryd.prog Gd24 := sndd52.add ⟨_, Go.Proofs.Tryd.func24, by kernel_rfl, by kernel_rfl⟩ (by
  intro args ins out h hp
  unfold spd24 at h
  split at h
  · rename_i k n
    cases h
    exact vcFun_ok (C := Cd24) good sndd52 Meth.none mix Go.Proofs.Tryd.func24 (annd24 k n) (fun hw => by rw [← vcd24 k n]; exact pured24 k n)
  · cases h)

theorem sndd18 : Sound Go.Proofs.Tryd.prog Gd18 := sndd24.add ⟨_, Go.Proofs.Tryd.func18, by kernel_rfl, by kernel_rfl⟩ (by
  intro args ins out h hp
  unfold spd18 at h
  split at h
  · rename_i k n
    cases h
    exact vcFun_ok (C := Cd18) good sndd24 Meth.none mix Go.Proofs.Tryd.func18 (annd18 k n) (fun hw => by rw [← vcd18 k n]; exact pured18 k n)
  · cases h)

theorem sndd55 : Sound Go.Proofs.Tryd.prog Gd55 := sndd18.add ⟨_, Go.Proofs.Tryd.func55, by kernel_rfl, by kernel_rfl⟩ (by
  intro args ins out h hp
  unfold spd55 at h
  split at h
  · rename_i x i
    cases h
    exact vcFun_ok (C := Cd55) good sndd18 Meth.none mix Go.Proofs.Tryd.func55 (annd55 x i) (fun hw => by rw [← vcd55 x i]; exact pured55 x i hp (hwd55 hw))
  · cases h)

end Go.SL.A

/- Functions and what they are held to do: bound to their code. -/
namespace Go.SL.A
open Go Go.SL Go.SL.S
set_option maxRecDepth 100000
noncomputable def Cd47 : Ctx := ⟨Go.Proofs.Tryd.prog, D, Gd55, (fun _ _ => none), fun _ => []⟩
def annd47 (k : List Int) (n : Int) : Nat → St → Option Ann := fun _ _ => some ⟨Nat, [4, 5, 6], [1, 2], fun i => [(13, .v (.int .i64) (i : Int))], fun i => [(3, some ⟨false, true, .arr 4 (.int .i64), [(chipsK k n).take i ++ (List.replicate 4 0).drop i]⟩)], fun i => i ≤ 4, fun i => 4 - i⟩
def outd47 (k : List Int) (n : Int) : COut := ⟨[], .v (.arr 4 (.int .i64)) (chipsK k n), [], []⟩
def spd47 : Spec := fun args ins => match args, ins with
  | [⟨.arr 16 (.int .u8), k⟩, ⟨.int .i64, n⟩], [] => some (outd47 k n)
  | _, _ => none
def Gd47 := addG Gd55 47 spd47
def Pd47 (k : List Int) (n : Int) : Prop :=
  ∃ (x : Nat), (((0 : Nat) = (0 : Nat) ∧ (0 : Nat) = (0 : Nat) ∧ (0 : Nat) = (0 : Nat) ∧ (0 : Int) = (↑x : Int) ∧ (0 : Int) :: List.replicate (nat_lit 3) (0 : Int) = List.replicate (4 : Nat) (0 : Int) ∧ false = false ∧ numK
  k (99 : Int) (n % (1016 : Int)) = numK k (99 : Int) (n % (1016 : Int)) ∧ false = false ∧ (0 : Int) :: List.replicate (nat_lit 3) (0 : Int) = List.take x (chipsK k n) ++ List.drop x (List.replicate (4 : Nat) (0 : Int)) ∧
  false = false) ∧ x ≤ (4 : Nat)) ∧ ∀ (x : Nat), x ≤ (4 : Nat) → (IntKind.min IntKind.i64 ≤ (↑x : Int) ∧ (↑x : Int) ≤ IntKind.max IntKind.i64 ∧ ∀ (y : List Int), List.Mem y [List.take x (chipsK k n) ++ List.drop x
  (List.replicate (4 : Nat) (0 : Int))] → List.length y = (4 : Nat) ∧ ∀ (y_1 : Int), List.Mem y_1 y → IntKind.min IntKind.i64 ≤ y_1 ∧ y_1 ≤ IntKind.max IntKind.i64) → bif decide ((↑x : Int) < (4 : Int)) then (((0 : Int) ≤
  (↑x : Int) ∧ (↑x : Int) < (↑(4 : Nat) : Int)) ∧ Int.toNat (↑x : Int) < (4 : Nat)) ∧ ((0 : Int) ≤ (↑x : Int) ∧ (↑x : Int) < (64 : Int)) ∧ bif bitX (numK k (99 : Int) (n % (1016 : Int))) (Int.toNat (↑x : Int)) then (((0 :
  Int) ≤ (↑x : Int) ∧ (↑x : Int) < (↑(4 : Nat) : Int)) ∧ Int.toNat (↑x : Int) < (4 : Nat)) ∧ ∃ (y : Nat), ((0 : Nat) = (0 : Nat) ∧ (0 : Nat) = (0 : Nat) ∧ (0 : Nat) = (0 : Nat) ∧ IntKind.wrap IntKind.i64 ((↑x : Int) + (1 :
  Int)) = (↑y : Int) ∧ (0 : Int) :: List.replicate (nat_lit 3) (0 : Int) = List.replicate (4 : Nat) (0 : Int) ∧ false = false ∧ numK k (99 : Int) (n % (1016 : Int)) = numK k (99 : Int) (n % (1016 : Int)) ∧ false = false ∧
  List.set (List.set (List.take x (chipsK k n) ++ List.drop x (List.replicate (4 : Nat) (0 : Int))) (Int.toNat (↑x : Int)) (1 : Int)) (Int.toNat (↑x : Int)) (-1 : Int) = List.take y (chipsK k n) ++ List.drop y
  (List.replicate (4 : Nat) (0 : Int)) ∧ false = false) ∧ y ≤ (4 : Nat) ∧ (4 : Nat) - y < (4 : Nat) - x else ∃ (y : Nat), ((0 : Nat) = (0 : Nat) ∧ (0 : Nat) = (0 : Nat) ∧ (0 : Nat) = (0 : Nat) ∧ IntKind.wrap IntKind.i64
  ((↑x : Int) + (1 : Int)) = (↑y : Int) ∧ (0 : Int) :: List.replicate (nat_lit 3) (0 : Int) = List.replicate (4 : Nat) (0 : Int) ∧ false = false ∧ numK k (99 : Int) (n % (1016 : Int)) = numK k (99 : Int) (n % (1016 : Int))
  ∧ false = false ∧ List.set (List.take x (chipsK k n) ++ List.drop x (List.replicate (4 : Nat) (0 : Int))) (Int.toNat (↑x : Int)) (1 : Int) = List.take y (chipsK k n) ++ List.drop y (List.replicate (4 : Nat) (0 : Int)) ∧
  false = false) ∧ y ≤ (4 : Nat) ∧ (4 : Nat) - y < (4 : Nat) - x else List.append (List.take x (chipsK k n)) (List.drop x (List.replicate (4 : Nat) (0 : Int))) = chipsK k n
theorem vcd47 (k : List Int) (n : Int) : Pd47 k n = vcFun Cd47 (annd47 k n) Go.Proofs.Tryd.f47 [⟨.arr 16 (.int .u8), k⟩, ⟨.int .i64, n⟩] [] (outd47 k n) := by kernel_rfl

noncomputable def Cd20 : Ctx := ⟨Go.Proofs.Tryd.prog, D, Gd47, (fun _ _ => none), fun _ => []⟩
def annd20 (_k : List Int) (_n : Int) : Nat → St → Option Ann := fun _ _ => none
def outd20 (k : List Int) (n : Int) : COut := ⟨[], .v (.arr 4 (.int .i64)) (chipsK k n), [], []⟩
def spd20 : Spec := fun args ins => match args, ins with
  | [⟨.arr 16 (.int .u8), k⟩, ⟨.int .i64, n⟩], [] => some (outd20 k n)
  | _, _ => none
def Gd20 := addG Gd47 20 spd20
def Pd20 (k : List Int) (n : Int) : Prop :=
  (((0 : Int) ≤ (0 : Int) ∧ (0 : Int) ≤ (100 : Int)) ∧ ((0 : Int) ≤ (1 : Int) ∧ (1 : Int) ≤ (100 : Int)) ∧ ((0 : Int) ≤ (2 : Int) ∧ (2 : Int) ≤ (100 : Int)) ∧ (0 : Int) ≤ (3 : Int) ∧ (3 : Int) ≤ (100 : Int)) ∧ IntKind.wrap
  IntKind.i64 ((1 : Int) - IntKind.wrap IntKind.i64 ((2 : Int) * if bitX (numK k (99 : Int) (n % (1016 : Int))) (0 : Nat) = true then (1 : Int) else (0 : Int))) :: List.set (List.set (List.set (List.replicate (nat_lit 3) (0
  : Int)) (nat_lit 0) (IntKind.wrap IntKind.i64 ((1 : Int) - IntKind.wrap IntKind.i64 ((2 : Int) * if bitX (numK k (99 : Int) (n % (1016 : Int))) (1 : Nat) = true then (1 : Int) else (0 : Int))))) (nat_lit 1) (IntKind.wrap
  IntKind.i64 ((1 : Int) - IntKind.wrap IntKind.i64 ((2 : Int) * if bitX (numK k (99 : Int) (n % (1016 : Int))) (2 : Nat) = true then (1 : Int) else (0 : Int))))) (nat_lit 2) (IntKind.wrap IntKind.i64 ((1 : Int) -
  IntKind.wrap IntKind.i64 ((2 : Int) * if bitX (numK k (99 : Int) (n % (1016 : Int))) (3 : Nat) = true then (1 : Int) else (0 : Int)))) = chipsK k n
theorem vcd20 (k : List Int) (n : Int) : Pd20 k n = vcFun Cd20 (annd20 k n) Go.Proofs.Tryd.f20 [⟨.arr 16 (.int .u8), k⟩, ⟨.int .i64, n⟩] [] (outd20 k n) := by kernel_rfl

end Go.SL.A

/- A frame's chips. -/
namespace Go.SL.A
open Go Go.SL Go.SL.S
set_option maxRecDepth 100000

theorem chipK_len (x : Int) : (chipK x).length = 4 := by simp [chipK]
theorem chipK_at (x : Int) {i : Nat} (hi : i < 4) : (chipK x)[i]? = some (if bitX x i then -1 else 1) := by
  unfold chipK; rw [List.getElem?_map, List.getElem?_range hi]; rfl
theorem pured47 (k : List Int) (n : Int) : Pd47 k n := by
  unfold Pd47
  unfold chipsK
  have z : (0 : Int) :: List.replicate 3 0 = List.replicate 4 0 := rfl
  simp only [eq_self, true_and, and_true, Int.toNat_natCast, z]
  generalize numK k 99 (n % 1016) = x
  have hl := chipK_len x
  have ha : ∀ i, i < 4 → (chipK x)[i]? = some (if bitX x i then -1 else 1) := fun i hi => chipK_at x hi
  generalize chipK x = f at *
  refine ⟨0, ⟨⟨rfl, rfl⟩, by omega⟩, fun i hi hw => ?_⟩
  clear hw
  by_cases h : (i : Int) < 4
  · have hv := ha i (by omega)
    rw [decide_eq_true h, cond_true, List.set_set]
    refine ⟨⟨⟨by omega, by omega⟩, by omega⟩, ⟨by omega, by omega⟩, ?_⟩
    cases hb : bitX x i with
    | true =>
      rw [hb, if_pos rfl] at hv
      rw [cond_true]
      exact ⟨⟨⟨by omega, by omega⟩, by omega⟩, i + 1, ⟨step_i (by omega), set_step (by omega) (by rw [List.length_replicate]; omega) hv⟩, by omega, by omega⟩
    | false =>
      rw [hb, if_neg (by simp)] at hv
      rw [cond_false]
      exact ⟨i + 1, ⟨step_i (by omega), set_step (by omega) (by rw [List.length_replicate]; omega) hv⟩, by omega, by omega⟩
  · have : i = 4 := by omega
    subst this
    rw [decide_eq_false h, cond_false]
    show List.take 4 f ++ List.drop 4 (List.replicate 4 0) = f
    rw [List.take_of_length_le (by omega), List.drop_eq_nil_of_le (by rw [List.length_replicate]; omega), List.append_nil]
theorem chip1 (b : Bool) : IntKind.i64.wrap (1 - IntKind.i64.wrap (2 * if b = true then 1 else 0)) = if b = true then -1 else 1 := by cases b <;> decide
theorem pured20 (k : List Int) (n : Int) : Pd20 k n := by
  unfold Pd20
  unfold chipsK
  simp only [chip1]
  refine ⟨⟨⟨by decide, by decide⟩, ⟨by decide, by decide⟩, ⟨by decide, by decide⟩, by decide, by decide⟩, ?_⟩
  generalize numK k 99 (n % 1016) = x
  rfl
end Go.SL.A

/- Functions do what they are held to do. -/
namespace Go.SL.A
open Go Go.SL Go.SL.S
theorem sndd47 : Sound Go.Proofs.Tryd.prog Gd47 := sndd55.add ⟨_, Go.Proofs.Tryd.func47, by kernel_rfl, by kernel_rfl⟩ (by
  intro args ins out h hp
  unfold spd47 at h
  split at h
  · rename_i k n
    cases h
    exact vcFun_ok (C := Cd47) good sndd55 Meth.none mix Go.Proofs.Tryd.func47 (annd47 k n) (fun hw => by rw [← vcd47 k n]; exact pured47 k n)
  · cases h)

theorem sndd20 : Sound Go.Proofs.Tryd.prog Gd20 := sndd47.add ⟨_, Go.Proofs.Tryd.func20, by kernel_rfl, by kernel_rfl⟩ (by
  intro args ins out h hp
  unfold spd20 at h
  split at h
  · rename_i k n
    cases h
    exact vcFun_ok (C := Cd20) good sndd47 Meth.none mix Go.Proofs.Tryd.func20 (annd20 k n) (fun hw => by rw [← vcd20 k n]; exact pured20 k n)
  · cases h)

end Go.SL.A
