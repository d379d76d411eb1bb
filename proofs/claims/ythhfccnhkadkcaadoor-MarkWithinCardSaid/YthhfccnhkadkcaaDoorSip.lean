/- The keyed sum: the functions of the package sip and the document's. -/
import Derived.Test.YthhfccnhkadkcaaDoorKb
import Derived.Test.YthhfccnhkadkcaaDoorT

/- The keyed sum of bytes: plain functions. -/
namespace Go.SL.S
open Go Go.SL
def turnI (x n : Int) : Int := ior .u64 (ishl .u64 x (n % 64)) (ishr .u64 x (64 - n % 64))
def mixA (v : List Int) (a b : Nat) : List Int := List.set v a (IntKind.u64.wrap (List.getD v a 0 + List.getD v b 0))
def mixB (v : List Int) (a b : Nat) (n : Int) : List Int := List.set v b (ixor .u64 (turnI (List.getD v b 0) n) (List.getD v a 0))
def mixF (v : List Int) (a b : Nat) (n : Int) : List Int := mixB (mixA v a b) a b n
def turnAt (v : List Int) (a : Nat) : List Int := List.set v a (turnI (List.getD v a 0) 32)
def rndF (v : List Int) : List Int := turnAt (mixF (mixF (mixF (turnAt (mixF v 0 1 13) 0) 2 3 16) 0 3 21) 2 1 17) 2
def rndN (v : List Int) : Nat → List Int
  | 0 => v
  | n + 1 => rndF (rndN v n)
def numTo (s : ByteArray) (at' : Nat) : Nat → Int
  | 0 => 0
  | n + 1 => numTo s at' n + byteAt s (at' + n) * 256 ^ n
def wordS (s : ByteArray) (at' : Nat) : Int := numTo s at' 8
def wordsTo (s : ByteArray) (n : Nat) : List Int := (List.range n).map fun i => wordS s (8 * i)
def lastW (s : ByteArray) : Int := wordS s (8 * (ByteArray.size s / 8)) + ((ByteArray.size s % 256 : Nat) : Int) * 72057594037927936
def wordsF (s : ByteArray) : List Int := wordsTo s (ByteArray.size s / 8) ++ [lastW s]
def initS (k : List Int) : List Int :=
  [ixor .u64 (wordS (bytesOf k) 0) 8317987319222330741, ixor .u64 (wordS (bytesOf k) 8) 7237128888997146477, ixor .u64 (wordS (bytesOf k) 0) 7816392313619706465, ixor .u64 (wordS (bytesOf k) 8) 8387220255154660723]
def takeA (v : List Int) (w : Int) : List Int := List.set v 3 (ixor .u64 (List.getD v 3 0) w)
def takeB (v : List Int) (w : Int) : List Int := List.set v 0 (ixor .u64 (List.getD v 0 0) w)
def takeW (v : List Int) (w : Int) : List Int := takeB (rndN (takeA v w) 2) w
def endA (v : List Int) : List Int := List.set v 2 (ixor .u64 (List.getD v 2 0) 255)
def sumV (v : List Int) : Int := ixor .u64 (ixor .u64 (ixor .u64 (List.getD v 0 0) (List.getD v 1 0)) (List.getD v 2 0)) (List.getD v 3 0)
def sipS (k : List Int) (s : ByteArray) (n : Nat) : List Int := ((wordsF s).take n).foldl takeW (initS k)
def sipF (k : List Int) (s : ByteArray) : Int := sumV (rndN (endA ((wordsF s).foldl takeW (initS k))) 4)
def rot1 (x : Int) : Int := IntKind.u64.wrap (2 * x) + (if 9223372036854775808 ≤ x then 1 else 0)
def leftTo (x : Int) : Nat → Int
  | 0 => x
  | n + 1 => rot1 (leftTo x n)
end Go.SL.S

/- Bytes, words and turns: plain facts. -/
namespace Go.SL.A
open Go Go.SL Go.SL.S
set_option maxRecDepth 100000

theorem wrap_u64 (x : Int) : IntKind.u64.wrap x = x % 18446744073709551616 := by simp [IntKind.wrap, IntKind.bits, IntKind.signed]
theorem w_u64 {x : Int} (h : 0 ≤ x) (h' : x < 18446744073709551616) : IntKind.u64.wrap x = x := by rw [wrap_u64]; omega
theorem p64 : (2 : Nat) ^ 64 = 18446744073709551616 := by decide

theorem byte_fit (s : ByteArray) (i : Nat) : 0 ≤ byteAt s i ∧ byteAt s i < 256 := by
  unfold byteAt
  have := UInt8.toNat_lt (s.data.toList.getD i 0)
  omega
theorem byte_beyond {s : ByteArray} {i : Nat} (h : ByteArray.size s ≤ i) : byteAt s i = 0 := by
  unfold byteAt
  rw [List.getD_eq_getElem?_getD, List.getElem?_eq_none (by rw [Array.length_toList]; exact h)]; rfl
theorem byte_ext (s : ByteArray) (a b i : Nat) (h : a + i < b) : byteAt (ByteArray.extract s a b) i = byteAt s (a + i) := by
  unfold byteAt
  rw [ByteArray.data_extract, Array.toList_extract, List.extract_eq_take_drop, List.getD_eq_getElem?_getD, List.getElem?_take, if_pos (by omega), List.getElem?_drop, ← List.getD_eq_getElem?_getD]
theorem byte_of {l : List Int} (hl : ∀ x ∈ l, 0 ≤ x ∧ x ≤ 255) (i : Nat) : byteAt (bytesOf l) i = l.getD i 0 := by
  unfold byteAt bytesOf
  show (((l.map fun n => UInt8.ofNat n.toNat).getD i 0).toNat : Int) = _
  rw [List.getD_eq_getElem?_getD, List.getElem?_map, List.getD_eq_getElem?_getD]
  by_cases h : i < l.length
  · rw [List.getElem?_eq_getElem h]
    have := hl _ (List.getElem_mem h)
    show ((UInt8.ofNat (l[i]).toNat).toNat : Int) = l[i]
    rw [UInt8.toNat_ofNat']; omega
  · rw [List.getElem?_eq_none (by omega)]; rfl
theorem size_of (l : List Int) : ByteArray.size (bytesOf l) = l.length := by unfold bytesOf ByteArray.size; simp

theorem pow256 (n : Nat) : (0 : Int) < 256 ^ n := Int.pow_pos (by decide)
theorem num_fit (s : ByteArray) (a : Nat) : ∀ n, 0 ≤ numTo s a n ∧ numTo s a n < 256 ^ n
  | 0 => by simp [numTo]
  | n + 1 => by
    have h1 := num_fit s a n
    have h2 := byte_fit s (a + n)
    have h3 := pow256 n
    rw [numTo, Int.pow_succ]
    generalize (256 : Int) ^ n = P at *
    generalize byteAt s (a + n) = b at *
    have h4 : 0 ≤ b * P := Int.mul_nonneg h2.1 (Int.le_of_lt h3)
    have h5 : b * P ≤ 255 * P := Int.mul_le_mul_of_nonneg_right (by omega) (Int.le_of_lt h3)
    omega
theorem num_more (s : ByteArray) (a n m : Nat) (hm : n ≤ m) (h : ∀ i, n ≤ i → i < m → byteAt s (a + i) = 0) : numTo s a m = numTo s a n := by
  induction m with
  | zero => rw [show n = 0 by omega]
  | succ m ih =>
    by_cases e : n = m + 1
    · rw [e]
    · rw [numTo, h m (by omega) (by omega), Int.zero_mul, Int.add_zero]
      exact ih (by omega) fun i h1 h2 => h i h1 (by omega)
theorem num_congr {s t : ByteArray} {a b : Nat} : ∀ {n : Nat}, (∀ i, i < n → byteAt s (a + i) = byteAt t (b + i)) → numTo s a n = numTo t b n
  | 0, _ => rfl
  | n + 1, h => by rw [numTo, numTo, num_congr fun i hi => h i (by omega), h n (by omega)]
theorem num_low (s : ByteArray) (a : Nat) : ∀ k, numTo s a (k + 1) = 256 * numTo s (a + 1) k + byteAt s a
  | 0 => by simp [numTo]
  | k + 1 => by
    rw [numTo, num_low s a k, numTo, Int.pow_succ, show a + (k + 1) = a + 1 + k by omega, Int.mul_add]
    have : byteAt s (a + 1 + k) * (256 ^ k * 256) = 256 * (byteAt s (a + 1 + k) * 256 ^ k) := by
      rw [← Int.mul_assoc, Int.mul_comm]
    rw [this]; omega
theorem word_fit (s : ByteArray) (a : Nat) : 0 ≤ wordS s a ∧ wordS s a < 18446744073709551616 := by
  have := num_fit s a 8
  have e : (256 : Int) ^ 8 = 18446744073709551616 := by decide
  rw [e] at this
  exact this

/-! ### Either -/
theorem or_num {x y : Nat} (h : x ||| y < 2 ^ 64) : ior .u64 (x : Int) (y : Int) = ((x ||| y : Nat) : Int) := by
  have hx : x < 2 ^ 64 := Nat.lt_of_le_of_lt Nat.left_le_or h
  have hy : y < 2 ^ 64 := Nat.lt_of_le_of_lt Nat.right_le_or h
  unfold ior
  have e1 : (BitVec.ofInt IntKind.u64.bits (x : Int) ||| BitVec.ofInt IntKind.u64.bits (y : Int)).toNat = x ||| y := by
    rw [BitVec.toNat_or, BitVec.ofInt_natCast, BitVec.ofInt_natCast, BitVec.toNat_ofNat, BitVec.toNat_ofNat]
    have e : (2 : Nat) ^ IntKind.u64.bits = 2 ^ 64 := rfl
    rw [e, Nat.mod_eq_of_lt hx, Nat.mod_eq_of_lt hy]
  rw [e1]
  rw [p64] at h
  exact w_u64 (by omega) (by omega)
theorem or_high {a c i : Nat} (h : a < 2 ^ i) (hb : 2 ^ i * c + a < 2 ^ 64) : ior .u64 (a : Int) ((2 ^ i * c : Nat) : Int) = ((2 ^ i * c + a : Nat) : Int) := by
  have e := Nat.two_pow_add_eq_or_of_lt h c
  have hc : a ||| 2 ^ i * c = 2 ^ i * c + a := by rw [Nat.or_comm, e]
  rw [or_num (by rw [hc]; exact hb), hc]
theorem or_low {a c i : Nat} (h : a < 2 ^ i) (hb : 2 ^ i * c + a < 2 ^ 64) : ior .u64 ((2 ^ i * c : Nat) : Int) (a : Int) = ((2 ^ i * c + a : Nat) : Int) := by
  have e := Nat.two_pow_add_eq_or_of_lt h c
  rw [or_num (by rw [← e]; exact hb), e]
theorem or_byte {a b : Int} {i : Nat} (ha : 0 ≤ a ∧ a < 256 ^ i) (hb : 0 ≤ b ∧ b < 256) (hi : i < 8) : ior .u64 a (ishl .u64 b (8 * (i : Int))) = a + b * 256 ^ i := by
  obtain ⟨x, rfl⟩ : ∃ n : Nat, a = n := ⟨a.toNat, by omega⟩
  obtain ⟨y, rfl⟩ : ∃ n : Nat, b = n := ⟨b.toNat, by omega⟩
  have main : ∀ j : Nat, j = 8 * i → (256 : Nat) ^ i = 2 ^ j → 2 ^ j * 256 ≤ 2 ^ 64 → ior .u64 (x : Int) (ishl .u64 (y : Int) (8 * (i : Int))) = x + y * 256 ^ i := by
    intro j hj hp h64
    have hx : x < 2 ^ j := by
      rw [← hp]
      have : (x : Int) < ((256 ^ i : Nat) : Int) := by simpa using ha.2
      omega
    have hyj : 2 ^ j * y ≤ 2 ^ j * 255 := Nat.mul_le_mul_left _ (by omega)
    have hpj : 0 < 2 ^ j := Nat.pow_pos (by decide)
    have hs : ishl .u64 (y : Int) (8 * (i : Int)) = ((2 ^ j * y : Nat) : Int) := by
      unfold ishl
      have e1 : (8 * (i : Int)).toNat = j := by omega
      have e2 : min j IntKind.u64.bits = j := by
        have : IntKind.u64.bits = 64 := rfl
        omega
      have e3 : (y : Int) * 2 ^ j = ((2 ^ j * y : Nat) : Int) := by
        rw [Int.natCast_mul, Int.natCast_pow, Int.mul_comm]; rfl
      rw [p64] at h64
      rw [e1, e2, e3]
      exact w_u64 (by omega) (by omega)
    rw [hs, or_high hx (by omega)]
    rw [← hp, Int.natCast_add, Int.natCast_mul, Int.natCast_pow, Int.mul_comm, Int.add_comm]; rfl
  rcases (show i = 0 ∨ i = 1 ∨ i = 2 ∨ i = 3 ∨ i = 4 ∨ i = 5 ∨ i = 6 ∨ i = 7 by omega) with rfl | rfl | rfl | rfl | rfl | rfl | rfl | rfl
  · exact main 0 rfl (by decide) (by decide)
  · exact main 8 rfl (by decide) (by decide)
  · exact main 16 rfl (by decide) (by decide)
  · exact main 24 rfl (by decide) (by decide)
  · exact main 32 rfl (by decide) (by decide)
  · exact main 40 rfl (by decide) (by decide)
  · exact main 48 rfl (by decide) (by decide)
  · exact main 56 rfl (by decide) (by decide)
theorem or_len {a : Int} {n : Nat} (ha : 0 ≤ a ∧ a < 72057594037927936) : ior .u64 a (ishl .u64 (IntKind.u64.wrap (n : Int)) 56) = a + ((n % 256 : Nat) : Int) * 72057594037927936 := by
  obtain ⟨x, rfl⟩ : ∃ m : Nat, a = m := ⟨a.toNat, by omega⟩
  have e56 : (2 : Nat) ^ 56 = 72057594037927936 := by decide
  have hs : ishl .u64 (IntKind.u64.wrap (n : Int)) 56 = ((2 ^ 56 * (n % 256) : Nat) : Int) := by
    unfold ishl
    have e2 : min (56 : Int).toNat IntKind.u64.bits = 56 := rfl
    have e3 : (2 : Int) ^ 56 = 72057594037927936 := by decide
    rw [e2, e3, e56, wrap_u64, wrap_u64]
    omega
  rw [hs, or_high (by rw [e56]; omega) (by rw [e56, p64]; omega), e56]
  omega

/-! ### Turns -/
def rotN (x m : Nat) : Nat := 2 ^ m * (x % 2 ^ (64 - m)) + x / 2 ^ (64 - m)
theorem pow_split {m : Nat} (h : m ≤ 64) : 2 ^ (64 - m) * 2 ^ m = 2 ^ 64 := by rw [← Nat.pow_add, Nat.sub_add_cancel h]
theorem rot_fit {x m : Nat} (hx : x < 2 ^ 64) (hm : m ≤ 64) : x / 2 ^ (64 - m) < 2 ^ m ∧ rotN x m < 2 ^ 64 := by
  have h1 : x / 2 ^ (64 - m) < 2 ^ m := Nat.div_lt_of_lt_mul (by rw [pow_split hm]; exact hx)
  refine ⟨h1, ?_⟩
  unfold rotN
  have h2 : x % 2 ^ (64 - m) < 2 ^ (64 - m) := Nat.mod_lt _ (Nat.pow_pos (by decide))
  have h3 : 2 ^ m * (x % 2 ^ (64 - m) + 1) ≤ 2 ^ m * 2 ^ (64 - m) := Nat.mul_le_mul_left _ (by omega)
  rw [Nat.mul_comm (2 ^ m) (2 ^ (64 - m)), pow_split hm, Nat.mul_add] at h3
  omega
theorem turn_num {x m : Nat} (hx : x < 2 ^ 64) (hm : m < 64) {n : Int} (hn : n % 64 = m) : turnI (x : Int) n = (rotN x m : Int) := by
  obtain ⟨h1, h2⟩ := rot_fit hx (Nat.le_of_lt hm)
  unfold turnI
  rw [hn]
  have e1 : ishl .u64 (x : Int) (m : Int) = ((2 ^ m * (x % 2 ^ (64 - m)) : Nat) : Int) := by
    unfold ishl
    have e2 : min (m : Int).toNat IntKind.u64.bits = m := by
      have : IntKind.u64.bits = 64 := rfl
      omega
    have e3 : (x : Int) * 2 ^ m = ((x * 2 ^ m : Nat) : Int) := by rw [Int.natCast_mul, Int.natCast_pow]; rfl
    have e4 : x * 2 ^ m % 18446744073709551616 = 2 ^ m * (x % 2 ^ (64 - m)) := by
      rw [← p64, ← pow_split (Nat.le_of_lt hm), Nat.mul_mod_mul_right, Nat.mul_comm]
    rw [e2, e3, wrap_u64, ← e4]
    omega
  have e2 : ishr .u64 (x : Int) (64 - (m : Int)) = ((x / 2 ^ (64 - m) : Nat) : Int) := by
    unfold ishr
    have e3 : min (64 - (m : Int)).toNat IntKind.u64.bits = 64 - m := by
      have : IntKind.u64.bits = 64 := rfl
      omega
    rw [e3, Int.fdiv_eq_ediv_of_nonneg _ (Int.le_of_lt (Int.pow_pos (by decide))), Int.natCast_ediv, Int.natCast_pow]; rfl
  rw [e1, e2, or_low h1 (by unfold rotN at h2; exact h2)]; rfl
theorem rot_step {x m : Nat} (hx : x < 2 ^ 64) (hm : m < 63) : rot1 (rotN x m : Int) = (rotN x (m + 1) : Int) := by
  obtain ⟨h1, h2⟩ := rot_fit hx (show m ≤ 64 by omega)
  have eQ : 2 ^ (64 - m) = 2 ^ (63 - m) * 2 := by rw [show 64 - m = 63 - m + 1 by omega, Nat.pow_succ]
  have eQ2 : 64 - (m + 1) = 63 - m := by omega
  have hPQ : 2 ^ m * 2 ^ (63 - m) = 9223372036854775808 := by
    rw [← Nat.pow_add, show m + (63 - m) = 63 by omega]
  have hr : x % 2 ^ (63 - m) < 2 ^ (63 - m) := Nat.mod_lt _ (Nat.pow_pos (by decide))
  unfold rotN at *
  rw [eQ2, eQ, Nat.mod_mul, ← Nat.div_div_eq_div_mul, Nat.pow_succ]
  rw [eQ, ← Nat.div_div_eq_div_mul] at h1
  generalize 2 ^ (63 - m) = Q at *
  generalize 2 ^ m = P at *
  generalize x % Q = r at *
  generalize x / Q = u at *
  have h3 : P * (r + 1) ≤ P * Q := Nat.mul_le_mul_left _ (by omega)
  rw [hPQ, Nat.mul_add, Nat.mul_one] at h3
  have h4 : P * (r + Q * (u % 2)) = P * r + 9223372036854775808 * (u % 2) := by rw [Nat.mul_add, ← Nat.mul_assoc, hPQ]
  have h5 : P * 2 * r = 2 * (P * r) := by rw [Nat.mul_comm P 2, Nat.mul_assoc]
  rw [h4, h5]
  generalize P * r = A at *
  unfold rot1
  rw [wrap_u64]
  rcases (show u % 2 = 0 ∨ u % 2 = 1 by omega) with h | h
  · rw [h, if_neg (by omega)]; omega
  · rw [h, if_pos (by omega)]; omega
theorem left_rot {x : Nat} (hx : x < 2 ^ 64) : ∀ n, n ≤ 63 → leftTo (x : Int) n = (rotN x n : Int)
  | 0, _ => by
    show (x : Int) = _
    unfold rotN
    have e1 : x % 2 ^ (64 - 0) = x := Nat.mod_eq_of_lt hx
    have e2 : x / 2 ^ (64 - 0) = 0 := Nat.div_eq_of_lt hx
    rw [e1, e2]; omega
  | n + 1, hn => by
    rw [leftTo, left_rot hx n (by omega), rot_step hx (by omega)]
theorem left_turn {x n : Int} (hx : 0 ≤ x ∧ x < 18446744073709551616) (hn : 0 ≤ n ∧ n < 64) : leftTo x n.toNat = turnI x n := by
  obtain ⟨y, rfl⟩ : ∃ m : Nat, x = m := ⟨x.toNat, by omega⟩
  have hy : y < 2 ^ 64 := by rw [p64]; omega
  rw [left_rot hy _ (by omega), turn_num hy (m := n.toNat) (by omega) (by omega)]
theorem turn_fit {x n : Int} (hx : 0 ≤ x ∧ x < 18446744073709551616) : 0 ≤ turnI x n ∧ turnI x n < 18446744073709551616 := by
  obtain ⟨y, rfl⟩ : ∃ m : Nat, x = m := ⟨x.toNat, by omega⟩
  have hy : y < 2 ^ 64 := by rw [p64]; omega
  have h := (rot_fit hy (m := (n % 64).toNat) (by omega)).2
  rw [turn_num hy (m := (n % 64).toNat) (by omega) (by omega)]
  rw [p64] at h
  omega
theorem ior_fit (a b : Int) : 0 ≤ ior .u64 a b ∧ ior .u64 a b < 18446744073709551616 := by
  unfold ior; rw [wrap_u64]; omega
theorem ixor_fit (a b : Int) : 0 ≤ ixor .u64 a b ∧ ixor .u64 a b < 18446744073709551616 := by
  unfold ixor; rw [wrap_u64]; omega
end Go.SL.A

/- Functions and what they are held to do: bound to their code. -/
namespace Go.SL.A
open Go Go.SL Go.SL.S
set_option maxRecDepth 100000
noncomputable def Cd124 : Ctx := ⟨Go.Proofs.Tryd.prog, D, G00, (fun _ _ => none), fun _ => []⟩
def annd124 (_x _n : Int) : Nat → St → Option Ann := fun _ _ => none
def outd124 (x n : Int) : COut := ⟨[], .v (.int .u64) (turnI x n), [], []⟩
def spd124 : Spec := fun args ins => match args, ins with
  | [⟨.int .u64, x⟩, ⟨.int .i64, n⟩], [] => some (outd124 x n)
  | _, _ => none
def Gd124 := addG G00 124 spd124
def Pd124 (x n : Int) : Prop :=
  ((64 : Int) ≠ (0 : Int) ∧ (64 : Int) ≠ (0 : Int)) ∧ ((0 : Int) ≤ Int.tmod (IntKind.wrap IntKind.i64 (Int.tmod n (64 : Int) + (64 : Int))) (64 : Int) ∧ (0 : Int) ≤ IntKind.wrap IntKind.i64 ((64 : Int) - Int.tmod
  (IntKind.wrap IntKind.i64 (Int.tmod n (64 : Int) + (64 : Int))) (64 : Int))) ∧ ior IntKind.u64 (ishl IntKind.u64 x (Int.tmod (IntKind.wrap IntKind.i64 (Int.tmod n (64 : Int) + (64 : Int))) (64 : Int))) (ishr IntKind.u64 x
  (IntKind.wrap IntKind.i64 ((64 : Int) - Int.tmod (IntKind.wrap IntKind.i64 (Int.tmod n (64 : Int) + (64 : Int))) (64 : Int)))) = turnI x n
theorem vcd124 (x n : Int) : Pd124 x n = vcFun Cd124 (annd124 x n) Go.Proofs.Tryd.f124 [⟨.int .u64, x⟩, ⟨.int .i64, n⟩] [] (outd124 x n) := by kernel_rfl

noncomputable def Cd123 : Ctx := ⟨Go.Proofs.Tryd.prog, D, Gd124, (fun _ _ => none), fun _ => []⟩
def annd123 (_v : List Int) (_a _b _n : Int) : Nat → St → Option Ann := fun _ _ => none
def outd123 (v : List Int) (a b n : Int) : COut := ⟨[0 ≤ a ∧ a < 4 ∧ 0 ≤ b ∧ b < 4], .tup [], [(0, some ⟨false, true, .arr 4 (.int .u64), [mixF v a.toNat b.toNat n]⟩)], []⟩
def spd123 : Spec := fun args ins => match args, ins with
  | [⟨.ref .ptr, .ptr 0 (.arr 4 (.int .u64)) [0]⟩, ⟨.int .i64, a⟩, ⟨.int .i64, b⟩, ⟨.int .i64, n⟩], [⟨false, true, .arr 4 (.int .u64), [v]⟩] => some (outd123 v a b n)
  | _, _ => none
def Gd123 := addG Gd124 123 spd123
def Pd123 (v : List Int) (a b n : Int) : Prop :=
  (((0 : Int) ≤ a ∧ a < (↑(4 : Nat) : Int)) ∧ Int.toNat a < (4 : Nat) ∧ ((0 : Int) ≤ b ∧ b < (↑(4 : Nat) : Int)) ∧ Int.toNat b < (4 : Nat) ∧ ((0 : Int) ≤ a ∧ a < (↑(4 : Nat) : Int)) ∧ Int.toNat a < (4 : Nat)) ∧ (((0 : Int)
  ≤ b ∧ b < (↑(4 : Nat) : Int)) ∧ Int.toNat b < (4 : Nat) ∧ ((0 : Int) ≤ a ∧ a < (↑(4 : Nat) : Int)) ∧ Int.toNat a < (4 : Nat) ∧ ((0 : Int) ≤ b ∧ b < (↑(4 : Nat) : Int)) ∧ Int.toNat b < (4 : Nat)) ∧ List.set (List.set v
  (Int.toNat a) (IntKind.wrap IntKind.u64 (List.getD v (Int.toNat a) (0 : Int) + List.getD v (Int.toNat b) (0 : Int)))) (Int.toNat b) (ixor IntKind.u64 (turnI (List.getD (List.set v (Int.toNat a) (IntKind.wrap IntKind.u64
  (List.getD v (Int.toNat a) (0 : Int) + List.getD v (Int.toNat b) (0 : Int)))) (Int.toNat b) (0 : Int)) n) (List.getD (List.set v (Int.toNat a) (IntKind.wrap IntKind.u64 (List.getD v (Int.toNat a) (0 : Int) + List.getD v
  (Int.toNat b) (0 : Int)))) (Int.toNat a) (0 : Int))) = mixF v (Int.toNat a) (Int.toNat b) n ∧ false = false
theorem vcd123 (v : List Int) (a b n : Int) : Pd123 v a b n = vcFun Cd123 (annd123 v a b n) Go.Proofs.Tryd.f123 [⟨.ref .ptr, .ptr 0 (.arr 4 (.int .u64)) [0]⟩, ⟨.int .i64, a⟩, ⟨.int .i64, b⟩, ⟨.int .i64, n⟩] [⟨false, true, .arr 4 (.int .u64), [v]⟩] (outd123 v a b n) := by kernel_rfl

noncomputable def Cd96 : Ctx := ⟨Go.Proofs.Tryd.prog, D, Gd123, (fun _ _ => none), fun _ => []⟩
def annd96 (_v : List Int) : Nat → St → Option Ann := fun _ _ => none
def outd96 (v : List Int) : COut := ⟨[], .tup [], [(0, some ⟨false, true, .arr 4 (.int .u64), [rndF v]⟩)], []⟩
def spd96 : Spec := fun args ins => match args, ins with
  | [⟨.ref .ptr, .ptr 0 (.arr 4 (.int .u64)) [0]⟩], [⟨false, true, .arr 4 (.int .u64), [v]⟩] => some (outd96 v)
  | _, _ => none
def Gd96 := addG Gd123 96 spd96
def Pd96 (v : List Int) : Prop :=
  ((0 : Int) ≤ (0 : Int) ∧ (0 : Int) < (4 : Int) ∧ (0 : Int) ≤ (1 : Int) ∧ (1 : Int) < (4 : Int)) ∧ (((0 : Int) ≤ (0 : Int) ∧ (0 : Int) < (↑(4 : Nat) : Int)) ∧ (0 : Nat) < (4 : Nat) ∧ ((0 : Int) ≤ (0 : Int) ∧ (0 : Int) <
  (↑(4 : Nat) : Int)) ∧ (0 : Nat) < (4 : Nat)) ∧ ((0 : Int) ≤ (2 : Int) ∧ (2 : Int) < (4 : Int) ∧ (0 : Int) ≤ (3 : Int) ∧ (3 : Int) < (4 : Int)) ∧ ((0 : Int) ≤ (0 : Int) ∧ (0 : Int) < (4 : Int) ∧ (0 : Int) ≤ (3 : Int) ∧ (3
  : Int) < (4 : Int)) ∧ ((0 : Int) ≤ (2 : Int) ∧ (2 : Int) < (4 : Int) ∧ (0 : Int) ≤ (1 : Int) ∧ (1 : Int) < (4 : Int)) ∧ (((0 : Int) ≤ (2 : Int) ∧ (2 : Int) < (↑(4 : Nat) : Int)) ∧ (2 : Nat) < (4 : Nat) ∧ ((0 : Int) ≤ (2 :
  Int) ∧ (2 : Int) < (↑(4 : Nat) : Int)) ∧ (2 : Nat) < (4 : Nat)) ∧ List.set (mixF (mixF (mixF (List.set (mixF v (0 : Nat) (1 : Nat) (13 : Int)) (0 : Nat) (turnI (List.getD (mixF v (0 : Nat) (1 : Nat) (13 : Int)) (0 : Nat)
  (0 : Int)) (32 : Int))) (2 : Nat) (3 : Nat) (16 : Int)) (0 : Nat) (3 : Nat) (21 : Int)) (2 : Nat) (1 : Nat) (17 : Int)) (2 : Nat) (turnI (List.getD (mixF (mixF (mixF (List.set (mixF v (0 : Nat) (1 : Nat) (13 : Int)) (0 :
  Nat) (turnI (List.getD (mixF v (0 : Nat) (1 : Nat) (13 : Int)) (0 : Nat) (0 : Int)) (32 : Int))) (2 : Nat) (3 : Nat) (16 : Int)) (0 : Nat) (3 : Nat) (21 : Int)) (2 : Nat) (1 : Nat) (17 : Int)) (2 : Nat) (0 : Int)) (32 :
  Int)) = rndF v ∧ false = false
theorem vcd96 (v : List Int) : Pd96 v = vcFun Cd96 (annd96 v) Go.Proofs.Tryd.f96 [⟨.ref .ptr, .ptr 0 (.arr 4 (.int .u64)) [0]⟩] [⟨false, true, .arr 4 (.int .u64), [v]⟩] (outd96 v) := by kernel_rfl

noncomputable def Cd98 : Ctx := ⟨Go.Proofs.Tryd.prog, D, Gd96, (fun _ _ => none), fun _ => []⟩
def annd98 (v : List Int) (n : Int) : Nat → St → Option Ann := fun _ _ => some ⟨Nat, [1, 4], [], fun i => [(5, .v (.int .i64) (i : Int))], fun i => [(0, some ⟨false, true, .arr 4 (.int .u64), [rndN v i]⟩)], fun i => i ≤ n.toNat, fun i => n.toNat - i⟩
def outd98 (v : List Int) (n : Int) : COut := ⟨[0 ≤ n ∧ n ≤ 1000], .tup [], [(0, some ⟨false, true, .arr 4 (.int .u64), [rndN v n.toNat]⟩)], []⟩
def spd98 : Spec := fun args ins => match args, ins with
  | [⟨.int .i64, n⟩, ⟨.ref .func, .func (.func 96) [.ptr 0 (.arr 4 (.int .u64)) [0]] []⟩], [⟨false, true, .arr 4 (.int .u64), [v]⟩] => some (outd98 v n)
  | _, _ => none
def Gd98 := addG Gd96 98 spd98
def Pd98 (v : List Int) (n : Int) : Prop :=
  ∃ (x : Nat), (((0 : Nat) = (0 : Nat) ∧ n = n ∧ (0 : Int) = (↑x : Int) ∧ v = rndN v x ∧ false = false) ∧ x ≤ Int.toNat n) ∧ ∀ (x : Nat), x ≤ Int.toNat n → (IntKind.min IntKind.i64 ≤ (↑x : Int) ∧ (↑x : Int) ≤ IntKind.max
  IntKind.i64 ∧ ∀ (y : List Int), List.Mem y [rndN v x] → List.length y = (4 : Nat) ∧ ∀ (y_1 : Int), List.Mem y_1 y → IntKind.min IntKind.u64 ≤ y_1 ∧ y_1 ≤ IntKind.max IntKind.u64) → bif decide ((↑x : Int) < n) then ∃ (y :
  Nat), ((0 : Nat) = (0 : Nat) ∧ n = n ∧ IntKind.wrap IntKind.i64 ((↑x : Int) + (1 : Int)) = (↑y : Int) ∧ rndF (rndN v x) = rndN v y ∧ false = false) ∧ y ≤ Int.toNat n ∧ Int.toNat n - y < Int.toNat n - x else rndN v x =
  rndN v (Int.toNat n) ∧ false = false
theorem vcd98 (v : List Int) (n : Int) : Pd98 v n = vcFun Cd98 (annd98 v n) Go.Proofs.Tryd.f98 [⟨.int .i64, n⟩, ⟨.ref .func, .func (.func 96) [.ptr 0 (.arr 4 (.int .u64)) [0]] []⟩] [⟨false, true, .arr 4 (.int .u64), [v]⟩] (outd98 v n) := by kernel_rfl

noncomputable def Cd95 : Ctx := ⟨Go.Proofs.Tryd.prog, D, Gd98, (fun _ _ => none), fun _ => []⟩
def annd95 (s : ByteArray) : Nat → St → Option Ann := fun _ _ => some ⟨Nat, [0, 6], [], fun i => [(7, .v (.int .i64) (i : Int)), (3, .v (.int .u64) (numTo s 0 i))], fun _ => [], fun i => i ≤ ByteArray.size s, fun i => ByteArray.size s - i⟩
def outd95 (s : ByteArray) : COut := ⟨[ByteArray.size s ≤ 8], .v (.int .u64) (wordS s 0), [], []⟩
def spd95 : Spec := fun args ins => match args, ins with
  | [⟨.str, s⟩], [] => some (outd95 s)
  | _, _ => none
def Gd95 := addG Gd98 95 spd95
def Pd95 (s : ByteArray) : Prop :=
  ∃ (x : Nat), ((s = s ∧ (0 : Int) = numTo s (0 : Nat) x ∧ (↑(ByteArray.size s) : Int) = (↑(ByteArray.size s) : Int) ∧ (0 : Int) = (↑x : Int)) ∧ x ≤ ByteArray.size s) ∧ ∀ (x : Nat), x ≤ ByteArray.size s → IntKind.min
  IntKind.i64 ≤ (↑x : Int) ∧ (↑x : Int) ≤ IntKind.max IntKind.i64 ∧ IntKind.min IntKind.u64 ≤ numTo s (0 : Nat) x ∧ numTo s (0 : Nat) x ≤ IntKind.max IntKind.u64 → bif decide ((↑x : Int) < (↑(ByteArray.size s) : Int)) then
  (((0 : Int) ≤ (↑x : Int) ∧ (↑x : Int) < (↑(ByteArray.size s) : Int)) ∧ (0 : Int) ≤ IntKind.wrap IntKind.i64 ((8 : Int) * (↑x : Int))) ∧ ∃ (y : Nat), (s = s ∧ ior IntKind.u64 (numTo s (0 : Nat) x) (ishl IntKind.u64
  (IntKind.wrap IntKind.u64 (byteAt s (Int.toNat (↑x : Int)))) (IntKind.wrap IntKind.i64 ((8 : Int) * (↑x : Int)))) = numTo s (0 : Nat) y ∧ (↑(ByteArray.size s) : Int) = (↑(ByteArray.size s) : Int) ∧ IntKind.wrap
  IntKind.i64 ((↑x : Int) + (1 : Int)) = (↑y : Int)) ∧ y ≤ ByteArray.size s ∧ ByteArray.size s - y < ByteArray.size s - x else numTo s (0 : Nat) x = wordS s (0 : Nat)
theorem vcd95 (s : ByteArray) : Pd95 s = vcFun Cd95 (annd95 s) Go.Proofs.Tryd.f95 [⟨.str, s⟩] [] (outd95 s) := by kernel_rfl

end Go.SL.A

/- The keyed sum: turns, rounds, words' numbers. -/
namespace Go.SL.A
open Go Go.SL Go.SL.S
set_option maxRecDepth 100000

theorem pured124 (x n : Int) : Pd124 x n := by
  unfold Pd124
  have d := tdm n (k := 64) (by decide)
  have e1 : IntKind.i64.wrap (n.tmod 64 + 64) = n.tmod 64 + 64 := w64 (by omega) (by omega)
  have d2 := tdm (n.tmod 64 + 64) (k := 64) (by decide)
  have e2 : (n.tmod 64 + 64).tmod 64 = n % 64 := by omega
  have e3 : IntKind.i64.wrap (64 - n % 64) = 64 - n % 64 := w64 (by omega) (by omega)
  rw [e1, e2, e3]
  exact ⟨⟨by decide, by decide⟩, ⟨by omega, by omega⟩, rfl⟩

theorem pured123 (v : List Int) (a b n : Int) (hp : 0 ≤ a ∧ a < 4 ∧ 0 ≤ b ∧ b < 4) : Pd123 v a b n := by
  obtain ⟨h1, h2, h3, h4⟩ := hp
  unfold Pd123
  exact ⟨⟨⟨h1, by omega⟩, by omega, ⟨h3, by omega⟩, by omega, ⟨h1, by omega⟩, by omega⟩, ⟨⟨h3, by omega⟩, by omega, ⟨h1, by omega⟩, by omega, ⟨h3, by omega⟩, by omega⟩, rfl, rfl⟩

theorem pured96 (v : List Int) : Pd96 v := by
  unfold Pd96
  exact ⟨by decide, by decide, by decide, by decide, by decide, by decide, rfl, rfl⟩

theorem pured98 (v : List Int) (n : Int) (hp : 0 ≤ n ∧ n ≤ 1000) : Pd98 v n := by
  unfold Pd98
  simp only [eq_self, true_and, and_true]
  refine ⟨0, ⟨⟨rfl, rfl⟩, by omega⟩, fun i hi hw => ?_⟩
  clear hw
  by_cases h : (i : Int) < n
  · rw [decide_eq_true h, cond_true]
    exact ⟨i + 1, ⟨step_i (by omega), rfl⟩, by omega, by omega⟩
  · have : i = n.toNat := by omega
    rw [decide_eq_false h, cond_false, this]

theorem pured95 (s : ByteArray) (hp : ByteArray.size s ≤ 8) : Pd95 s := by
  unfold Pd95
  simp only [eq_self, true_and, and_true, Int.toNat_natCast]
  refine ⟨0, ⟨⟨rfl, rfl⟩, by omega⟩, fun i hi hw => ?_⟩
  clear hw
  by_cases h : (i : Int) < (ByteArray.size s : Int)
  · have hb := byte_fit s i
    have hn := num_fit s 0 i
    rw [decide_eq_true h, cond_true, w64 (n := 8 * (i : Int)) (by omega) (by omega), w_u64 hb.1 (by omega), or_byte hn hb (by omega)]
    refine ⟨⟨⟨by omega, by omega⟩, by omega⟩, i + 1, ⟨?_, step_i (by omega)⟩, by omega, by omega⟩
    rw [numTo, Nat.zero_add]
  · have : i = ByteArray.size s := by omega
    subst this
    rw [decide_eq_false h, cond_false]
    unfold wordS
    exact (num_more s 0 _ 8 hp fun j h1 _ => byte_beyond (by omega)).symm
end Go.SL.A

/- Functions do what they are held to do. -/
namespace Go.SL.A
open Go Go.SL Go.SL.S
theorem sndd124 : Sound Go.Proofs.Tryd.prog Gd124 := snd00.add ⟨_, Go.Proofs.Tryd.func124, by kernel_rfl, by kernel_rfl⟩ (by
  intro args ins out h hp
  unfold spd124 at h
  split at h
  · rename_i x n
    cases h
    exact vcFun_ok (C := Cd124) good snd00 Meth.none mix Go.Proofs.Tryd.func124 (annd124 x n) (fun hw => by rw [← vcd124 x n]; exact pured124 x n)
  · cases h)

theorem sndd123 : Sound Go.Proofs.Tryd.prog Gd123 := sndd124.add ⟨_, Go.Proofs.Tryd.func123, by kernel_rfl, by kernel_rfl⟩ (by
  intro args ins out h hp
  unfold spd123 at h
  split at h
  · rename_i a b n v
    cases h
    exact vcFun_ok (C := Cd123) good sndd124 Meth.none mix Go.Proofs.Tryd.func123 (annd123 v a b n) (fun hw => by rw [← vcd123 v a b n]; exact pured123 v a b n hp)
  · cases h)

theorem sndd96 : Sound Go.Proofs.Tryd.prog Gd96 := sndd123.add ⟨_, Go.Proofs.Tryd.func96, by kernel_rfl, by kernel_rfl⟩ (by
  intro args ins out h hp
  unfold spd96 at h
  split at h
  · rename_i v
    cases h
    exact vcFun_ok (C := Cd96) good sndd123 Meth.none mix Go.Proofs.Tryd.func96 (annd96 v) (fun hw => by rw [← vcd96 v]; exact pured96 v)
  · cases h)

theorem sndd98 : Sound Go.Proofs.Tryd.prog Gd98 := sndd96.add ⟨_, Go.Proofs.Tryd.func98, by kernel_rfl, by kernel_rfl⟩ (by
  intro args ins out h hp
  unfold spd98 at h
  split at h
  · rename_i n v
    cases h
    exact vcFun_ok (C := Cd98) good sndd96 Meth.none mix Go.Proofs.Tryd.func98 (annd98 v n) (fun hw => by rw [← vcd98 v n]; exact pured98 v n hp)
  · cases h)

theorem sndd95 : Sound Go.Proofs.Tryd.prog Gd95 := sndd98.add ⟨_, Go.Proofs.Tryd.func95, by kernel_rfl, by kernel_rfl⟩ (by
  intro args ins out h hp
  unfold spd95 at h
  split at h
  · rename_i s
    cases h
    exact vcFun_ok (C := Cd95) good sndd98 Meth.none mix Go.Proofs.Tryd.func95 (annd95 s) (fun hw => by rw [← vcd95 s]; exact pured95 s hp)
  · cases h)

end Go.SL.A

/- Functions and what they are held to do: bound to their code. -/
namespace Go.SL.A
open Go Go.SL Go.SL.S
set_option maxRecDepth 100000
noncomputable def Cd97 : Ctx := ⟨Go.Proofs.Tryd.prog, D, Gd95, (fun _ _ => none), fun _ => []⟩
def annd97 (s : ByteArray) : Nat → St → Option Ann := fun _ _ => some ⟨Nat, [4], [], fun k => [(0, .v .str (ByteArray.extract s (8 * k) (ByteArray.size s))), (3, .v (.ref .slice) (.slice 0 (.int .u64) [] 0 k))], fun k => [(0, some ⟨false, false, .int .u64, wordsTo s k⟩)], fun k => k ≤ ByteArray.size s / 8, fun k => ByteArray.size s / 8 - k⟩
def outd97 (s : ByteArray) : COut := ⟨[ByteArray.size s ≤ 1000000000], .v (.ref .slice) (.slice 0 (.int .u64) [] 0 (ByteArray.size s / 8 + 1)), [], [⟨false, false, .int .u64, wordsF s⟩]⟩
def spd97 : Spec := fun args ins => match args, ins with
  | [⟨.str, s⟩], [] => some (outd97 s)
  | _, _ => none
def Gd97 := addG Gd95 97 spd97
def Pd97 (s : ByteArray) : Prop :=
  (0 : Int) ≤ (56 : Int) ∧ ∃ (x : Nat), ((s = ByteArray.extract s ((8 : Nat) * x) (ByteArray.size s) ∧ x = (0 : Nat) ∧ ishl IntKind.u64 (IntKind.wrap IntKind.u64 (↑(ByteArray.size s) : Int)) (56 : Int) = ishl IntKind.u64
  (IntKind.wrap IntKind.u64 (↑(ByteArray.size s) : Int)) (56 : Int) ∧ wordsTo s x = []) ∧ x ≤ ByteArray.size s / (8 : Nat)) ∧ ∀ (x : Nat), x ≤ ByteArray.size s / (8 : Nat) → (ByteArray.size (ByteArray.extract s ((8 : Nat) *
  x) (ByteArray.size s)) ≤ (9223372036854775807 : Nat) ∧ ∀ (y : Int), List.Mem y (wordsTo s x) → IntKind.min IntKind.u64 ≤ y ∧ y ≤ IntKind.max IntKind.u64) → bif decide ((8 : Int) ≤ (↑(ByteArray.size (ByteArray.extract s
  ((8 : Nat) * x) (ByteArray.size s))) : Int)) then ((0 : Int) ≤ (8 : Int) ∧ (8 : Int) ≤ (↑(ByteArray.size (ByteArray.extract s ((8 : Nat) * x) (ByteArray.size s))) : Int) ∧ ByteArray.size (ByteArray.extract
  (ByteArray.extract s ((8 : Nat) * x) (ByteArray.size s)) (0 : Nat) (8 : Nat)) ≤ (8 : Nat) ∧ (1 : Nat) ≤ (1 : Nat) ∧ (0 : Nat) + x = List.length (wordsTo s x) ∧ (x + List.length (seg (wordS (ByteArray.extract
  (ByteArray.extract s ((8 : Nat) * x) (ByteArray.size s)) (0 : Nat) (8 : Nat)) (0 : Nat) :: List.replicate (nat_lit 0) (0 : Int)) (0 : Nat) (1 : Nat))) * (8 : Nat) ≤ (70368744177664 : Nat)) ∧ ((0 : Int) ≤ (8 : Int) ∧ (8 :
  Int) ≤ (↑(ByteArray.size (ByteArray.extract s ((8 : Nat) * x) (ByteArray.size s))) : Int)) ∧ ∃ (y : Nat), (ByteArray.extract (ByteArray.extract s ((8 : Nat) * x) (ByteArray.size s)) (8 : Nat) ((8 : Nat) + (Int.toNat
  (↑(ByteArray.size (ByteArray.extract s ((8 : Nat) * x) (ByteArray.size s))) : Int) - (8 : Nat))) = ByteArray.extract s ((8 : Nat) * y) (ByteArray.size s) ∧ (0 : Nat) = (0 : Nat) ∧ x + List.length (seg (wordS
  (ByteArray.extract (ByteArray.extract s ((8 : Nat) * x) (ByteArray.size s)) (0 : Nat) (8 : Nat)) (0 : Nat) :: List.replicate (nat_lit 0) (0 : Int)) (0 : Nat) (1 : Nat)) = y ∧ ishl IntKind.u64 (IntKind.wrap IntKind.u64
  (↑(ByteArray.size s) : Int)) (56 : Int) = ishl IntKind.u64 (IntKind.wrap IntKind.u64 (↑(ByteArray.size s) : Int)) (56 : Int) ∧ List.append (List.drop (0 : Nat) (wordsTo s x)) (seg (wordS (ByteArray.extract
  (ByteArray.extract s ((8 : Nat) * x) (ByteArray.size s)) (0 : Nat) (8 : Nat)) (0 : Nat) :: List.replicate (nat_lit 0) (0 : Int)) (0 : Nat) (1 : Nat)) = wordsTo s y ∧ false = false) ∧ y ≤ ByteArray.size s / (8 : Nat) ∧
  ByteArray.size s / (8 : Nat) - y < ByteArray.size s / (8 : Nat) - x else (ByteArray.size (ByteArray.extract s ((8 : Nat) * x) (ByteArray.size s)) ≤ (8 : Nat) ∧ (1 : Nat) ≤ (1 : Nat) ∧ (0 : Nat) + x = List.length (wordsTo
  s x) ∧ (x + List.length (seg (ior IntKind.u64 (wordS (ByteArray.extract s ((8 : Nat) * x) (ByteArray.size s)) (0 : Nat)) (ishl IntKind.u64 (IntKind.wrap IntKind.u64 (↑(ByteArray.size s) : Int)) (56 : Int)) ::
  List.replicate (nat_lit 0) (0 : Int)) (0 : Nat) (1 : Nat))) * (8 : Nat) ≤ (70368744177664 : Nat)) ∧ (0 : Nat) = (0 : Nat) ∧ x + List.length (seg (ior IntKind.u64 (wordS (ByteArray.extract s ((8 : Nat) * x) (ByteArray.size
  s)) (0 : Nat)) (ishl IntKind.u64 (IntKind.wrap IntKind.u64 (↑(ByteArray.size s) : Int)) (56 : Int)) :: List.replicate (nat_lit 0) (0 : Int)) (0 : Nat) (1 : Nat)) = ByteArray.size s / (8 : Nat) + (1 : Nat) ∧ List.append
  (List.drop (0 : Nat) (wordsTo s x)) (seg (ior IntKind.u64 (wordS (ByteArray.extract s ((8 : Nat) * x) (ByteArray.size s)) (0 : Nat)) (ishl IntKind.u64 (IntKind.wrap IntKind.u64 (↑(ByteArray.size s) : Int)) (56 : Int)) ::
  List.replicate (nat_lit 0) (0 : Int)) (0 : Nat) (1 : Nat)) = wordsF s ∧ false = false
theorem vcd97 (s : ByteArray) : Pd97 s = vcFun Cd97 (annd97 s) Go.Proofs.Tryd.f97 [⟨.str, s⟩] [] (outd97 s) := by kernel_rfl

noncomputable def Cd120 : Ctx := ⟨Go.Proofs.Tryd.prog, D, Gd97, (fun _ _ => none), fun _ => []⟩
def annd120 (x n : Int) : Nat → St → Option Ann := fun _ _ => some ⟨Nat, [1], [], fun i => [(5, .v (.int .i64) (i : Int)), (0, .v (.int .u64) (leftTo x i))], fun _ => [], fun i => i ≤ n.toNat, fun i => n.toNat - i⟩
def outd120 (x n : Int) : COut := ⟨[0 ≤ n ∧ n < 64], .v (.int .u64) (turnI x n), [], []⟩
def spd120 : Spec := fun args ins => match args, ins with
  | [⟨.int .u64, x⟩, ⟨.int .i64, n⟩], [] => some (outd120 x n)
  | _, _ => none
def Gd120 := addG Gd97 120 spd120
def Pd120 (x n : Int) : Prop :=
  ∃ (x_1 : Nat), ((x = leftTo x x_1 ∧ n = n ∧ (0 : Int) = (↑x_1 : Int)) ∧ x_1 ≤ Int.toNat n) ∧ ∀ (x_2 : Nat), x_2 ≤ Int.toNat n → IntKind.min IntKind.i64 ≤ (↑x_2 : Int) ∧ (↑x_2 : Int) ≤ IntKind.max IntKind.i64 ∧ IntKind.min
  IntKind.u64 ≤ leftTo x x_2 ∧ leftTo x x_2 ≤ IntKind.max IntKind.u64 → bif decide ((↑x_2 : Int) < n) then bif decide ((9223372036854775808 : Int) ≤ leftTo x x_2) then ∃ (y : Nat), (IntKind.wrap IntKind.u64 (IntKind.wrap
  IntKind.u64 ((2 : Int) * leftTo x x_2) + (1 : Int)) = leftTo x y ∧ n = n ∧ IntKind.wrap IntKind.i64 ((↑x_2 : Int) + (1 : Int)) = (↑y : Int)) ∧ y ≤ Int.toNat n ∧ Int.toNat n - y < Int.toNat n - x_2 else ∃ (y : Nat),
  (IntKind.wrap IntKind.u64 ((2 : Int) * leftTo x x_2) = leftTo x y ∧ n = n ∧ IntKind.wrap IntKind.i64 ((↑x_2 : Int) + (1 : Int)) = (↑y : Int)) ∧ y ≤ Int.toNat n ∧ Int.toNat n - y < Int.toNat n - x_2 else leftTo x x_2 =
  turnI x n
theorem vcd120 (x n : Int) : Pd120 x n = vcFun Cd120 (annd120 x n) Go.Proofs.Tryd.f120 [⟨.int .u64, x⟩, ⟨.int .i64, n⟩] [] (outd120 x n) := by kernel_rfl

noncomputable def Cd91 : Ctx := ⟨Go.Proofs.Tryd.prog, D, Gd120, (fun _ _ => none), fun _ => []⟩
def annd91 (s : ByteArray) (a : Int) : Nat → St → Option Ann := fun _ _ => some ⟨Nat, [0, 1], [], fun k => [(6, .v (.int .i64) (7 - (k : Int))), (5, .v (.int .u64) (numTo s (a.toNat + 8 - k) k))], fun _ => [], fun k => k ≤ 8, fun k => 8 - k⟩
def outd91 (s : ByteArray) (a : Int) : COut := ⟨[0 ≤ a ∧ a ≤ 1000000000], .v (.int .u64) (wordS s a.toNat), [], []⟩
def spd91 : Spec := fun args ins => match args, ins with
  | [⟨.str, s⟩, ⟨.int .i64, a⟩], [] => some (outd91 s a)
  | _, _ => none
def Gd91 := addG Gd120 91 spd91
def Pd91 (s : ByteArray) (a : Int) : Prop :=
  ∃ (x : Nat), ((s = s ∧ a = a ∧ (0 : Int) = numTo s (Int.toNat a + (8 : Nat) - x) x ∧ (7 : Int) = (7 : Int) - (↑x : Int)) ∧ x ≤ (8 : Nat)) ∧ ∀ (x : Nat), x ≤ (8 : Nat) → IntKind.min IntKind.i64 ≤ (7 : Int) - (↑x : Int) ∧
  (7 : Int) - (↑x : Int) ≤ IntKind.max IntKind.i64 ∧ IntKind.min IntKind.u64 ≤ numTo s (Int.toNat a + (8 : Nat) - x) x ∧ numTo s (Int.toNat a + (8 : Nat) - x) x ≤ IntKind.max IntKind.u64 → bif decide ((0 : Int) ≤ (7 : Int)
  - (↑x : Int)) then bif decide (IntKind.wrap IntKind.i64 (a + ((7 : Int) - (↑x : Int))) < (↑(ByteArray.size s) : Int)) then ((0 : Int) ≤ IntKind.wrap IntKind.i64 (a + ((7 : Int) - (↑x : Int))) ∧ IntKind.wrap IntKind.i64 (a
  + ((7 : Int) - (↑x : Int))) < (↑(ByteArray.size s) : Int)) ∧ ∃ (y : Nat), (s = s ∧ a = a ∧ IntKind.wrap IntKind.u64 (IntKind.wrap IntKind.u64 ((256 : Int) * numTo s (Int.toNat a + (8 : Nat) - x) x) + IntKind.wrap
  IntKind.u64 (byteAt s (Int.toNat (IntKind.wrap IntKind.i64 (a + ((7 : Int) - (↑x : Int))))))) = numTo s (Int.toNat a + (8 : Nat) - y) y ∧ IntKind.wrap IntKind.i64 ((7 : Int) - (↑x : Int) - (1 : Int)) = (7 : Int) - (↑y :
  Int)) ∧ y ≤ (8 : Nat) ∧ (8 : Nat) - y < (8 : Nat) - x else ∃ (y : Nat), (s = s ∧ a = a ∧ IntKind.wrap IntKind.u64 ((256 : Int) * numTo s (Int.toNat a + (8 : Nat) - x) x) = numTo s (Int.toNat a + (8 : Nat) - y) y ∧
  IntKind.wrap IntKind.i64 ((7 : Int) - (↑x : Int) - (1 : Int)) = (7 : Int) - (↑y : Int)) ∧ y ≤ (8 : Nat) ∧ (8 : Nat) - y < (8 : Nat) - x else numTo s (Int.toNat a + (8 : Nat) - x) x = wordS s (Int.toNat a)
theorem vcd91 (s : ByteArray) (a : Int) : Pd91 s a = vcFun Cd91 (annd91 s a) Go.Proofs.Tryd.f91 [⟨.str, s⟩, ⟨.int .i64, a⟩] [] (outd91 s a) := by kernel_rfl

noncomputable def Cd92 : Ctx := ⟨Go.Proofs.Tryd.prog, D, Gd91, (fun _ _ => none), fun _ => []⟩
def annd92 (s : ByteArray) : Nat → St → Option Ann := fun _ _ => some ⟨Nat, [0, 4], [], fun k => [(5, .v (.int .i64) (k : Int)), (3, .v (.ref .slice) (.slice 0 (.int .u64) [] 0 k))], fun k => [(0, some ⟨false, false, .int .u64, wordsTo s k⟩)], fun k => k ≤ ByteArray.size s / 8, fun k => ByteArray.size s / 8 - k⟩
def outd92 (s : ByteArray) : COut := ⟨[ByteArray.size s ≤ 1000000000], .v (.ref .slice) (.slice 0 (.int .u64) [] 0 (ByteArray.size s / 8 + 1)), [], [⟨false, false, .int .u64, wordsF s⟩]⟩
def spd92 : Spec := fun args ins => match args, ins with
  | [⟨.str, s⟩], [] => some (outd92 s)
  | _, _ => none
def Gd92 := addG Gd91 92 spd92
def Pd92 (s : ByteArray) : Prop :=
  (8 : Int) ≠ (0 : Int) ∧ ∃ (x : Nat), ((s = s ∧ x = (0 : Nat) ∧ IntKind.wrap IntKind.i64 (Int.tdiv (↑(ByteArray.size s) : Int) (8 : Int)) = IntKind.wrap IntKind.i64 (Int.tdiv (↑(ByteArray.size s) : Int) (8 : Int)) ∧ (0 :
  Int) = (↑x : Int) ∧ wordsTo s x = []) ∧ x ≤ ByteArray.size s / (8 : Nat)) ∧ ∀ (x : Nat), x ≤ ByteArray.size s / (8 : Nat) → (IntKind.min IntKind.i64 ≤ (↑x : Int) ∧ (↑x : Int) ≤ IntKind.max IntKind.i64 ∧ ∀ (y : Int),
  List.Mem y (wordsTo s x) → IntKind.min IntKind.u64 ≤ y ∧ y ≤ IntKind.max IntKind.u64) → bif decide ((↑x : Int) < IntKind.wrap IntKind.i64 (Int.tdiv (↑(ByteArray.size s) : Int) (8 : Int))) then (((0 : Int) ≤ IntKind.wrap
  IntKind.i64 ((8 : Int) * (↑x : Int)) ∧ IntKind.wrap IntKind.i64 ((8 : Int) * (↑x : Int)) ≤ (1000000000 : Int)) ∧ (1 : Nat) ≤ (1 : Nat) ∧ (0 : Nat) + x = List.length (wordsTo s x) ∧ (x + List.length (seg (wordS s
  (Int.toNat (IntKind.wrap IntKind.i64 ((8 : Int) * (↑x : Int)))) :: List.replicate (nat_lit 0) (0 : Int)) (0 : Nat) (1 : Nat))) * (8 : Nat) ≤ (70368744177664 : Nat)) ∧ ∃ (y : Nat), (s = s ∧ (0 : Nat) = (0 : Nat) ∧ x +
  List.length (seg (wordS s (Int.toNat (IntKind.wrap IntKind.i64 ((8 : Int) * (↑x : Int)))) :: List.replicate (nat_lit 0) (0 : Int)) (0 : Nat) (1 : Nat)) = y ∧ IntKind.wrap IntKind.i64 (Int.tdiv (↑(ByteArray.size s) : Int)
  (8 : Int)) = IntKind.wrap IntKind.i64 (Int.tdiv (↑(ByteArray.size s) : Int) (8 : Int)) ∧ IntKind.wrap IntKind.i64 ((↑x : Int) + (1 : Int)) = (↑y : Int) ∧ List.append (List.drop (0 : Nat) (wordsTo s x)) (seg (wordS s
  (Int.toNat (IntKind.wrap IntKind.i64 ((8 : Int) * (↑x : Int)))) :: List.replicate (nat_lit 0) (0 : Int)) (0 : Nat) (1 : Nat)) = wordsTo s y ∧ false = false) ∧ y ≤ ByteArray.size s / (8 : Nat) ∧ ByteArray.size s / (8 :
  Nat) - y < ByteArray.size s / (8 : Nat) - x else ((0 : Int) ≤ IntKind.wrap IntKind.i64 ((8 : Int) * IntKind.wrap IntKind.i64 (Int.tdiv (↑(ByteArray.size s) : Int) (8 : Int))) ∧ IntKind.wrap IntKind.i64 ((8 : Int) *
  IntKind.wrap IntKind.i64 (Int.tdiv (↑(ByteArray.size s) : Int) (8 : Int))) ≤ (1000000000 : Int)) ∧ (256 : Int) ≠ (0 : Int) ∧ ((1 : Nat) ≤ (1 : Nat) ∧ (0 : Nat) + x = List.length (wordsTo s x) ∧ (x + List.length (seg
  (IntKind.wrap IntKind.u64 (wordS s (Int.toNat (IntKind.wrap IntKind.i64 ((8 : Int) * IntKind.wrap IntKind.i64 (Int.tdiv (↑(ByteArray.size s) : Int) (8 : Int))))) + IntKind.wrap IntKind.u64 (IntKind.wrap IntKind.u64
  (Int.tmod (↑(ByteArray.size s) : Int) (256 : Int)) * (72057594037927936 : Int))) :: List.replicate (nat_lit 0) (0 : Int)) (0 : Nat) (1 : Nat))) * (8 : Nat) ≤ (70368744177664 : Nat)) ∧ (0 : Nat) = (0 : Nat) ∧ x +
  List.length (seg (IntKind.wrap IntKind.u64 (wordS s (Int.toNat (IntKind.wrap IntKind.i64 ((8 : Int) * IntKind.wrap IntKind.i64 (Int.tdiv (↑(ByteArray.size s) : Int) (8 : Int))))) + IntKind.wrap IntKind.u64 (IntKind.wrap
  IntKind.u64 (Int.tmod (↑(ByteArray.size s) : Int) (256 : Int)) * (72057594037927936 : Int))) :: List.replicate (nat_lit 0) (0 : Int)) (0 : Nat) (1 : Nat)) = ByteArray.size s / (8 : Nat) + (1 : Nat) ∧ List.append
  (List.drop (0 : Nat) (wordsTo s x)) (seg (IntKind.wrap IntKind.u64 (wordS s (Int.toNat (IntKind.wrap IntKind.i64 ((8 : Int) * IntKind.wrap IntKind.i64 (Int.tdiv (↑(ByteArray.size s) : Int) (8 : Int))))) + IntKind.wrap
  IntKind.u64 (IntKind.wrap IntKind.u64 (Int.tmod (↑(ByteArray.size s) : Int) (256 : Int)) * (72057594037927936 : Int))) :: List.replicate (nat_lit 0) (0 : Int)) (0 : Nat) (1 : Nat)) = wordsF s ∧ false = false
theorem vcd92 (s : ByteArray) : Pd92 s = vcFun Cd92 (annd92 s) Go.Proofs.Tryd.f92 [⟨.str, s⟩] [] (outd92 s) := by kernel_rfl

noncomputable def Cd93 : Ctx := ⟨Go.Proofs.Tryd.prog, D, Gd92, (fun _ _ => none), fun _ => []⟩
def annd93 (_v : List Int) : Nat → St → Option Ann := fun _ _ => none
def outd93 (v : List Int) : COut := ⟨[], .v (.arr 4 (.int .u64)) (rndF v), [], []⟩
def spd93 : Spec := fun args ins => match args, ins with
  | [⟨.arr 4 (.int .u64), v⟩], [] => some (outd93 v)
  | _, _ => none
def Gd93 := addG Gd92 93 spd93
def Pd93 (v : List Int) : Prop :=
  (((0 : Int) ≤ (0 : Int) ∧ (0 : Int) < (↑(4 : Nat) : Int)) ∧ (0 : Nat) < (4 : Nat) ∧ ((0 : Int) ≤ (1 : Int) ∧ (1 : Int) < (↑(4 : Nat) : Int)) ∧ (1 : Nat) < (4 : Nat) ∧ ((0 : Int) ≤ (2 : Int) ∧ (2 : Int) < (↑(4 : Nat) :
  Int)) ∧ (2 : Nat) < (4 : Nat) ∧ ((0 : Int) ≤ (3 : Int) ∧ (3 : Int) < (↑(4 : Nat) : Int)) ∧ (3 : Nat) < (4 : Nat)) ∧ ((0 : Int) ≤ (13 : Int) ∧ (13 : Int) < (64 : Int)) ∧ ((0 : Int) ≤ (32 : Int) ∧ (32 : Int) < (64 : Int)) ∧
  ((0 : Int) ≤ (16 : Int) ∧ (16 : Int) < (64 : Int)) ∧ ((0 : Int) ≤ (21 : Int) ∧ (21 : Int) < (64 : Int)) ∧ ((0 : Int) ≤ (17 : Int) ∧ (17 : Int) < (64 : Int)) ∧ ((0 : Int) ≤ (32 : Int) ∧ (32 : Int) < (64 : Int)) ∧
  IntKind.wrap IntKind.u64 (turnI (IntKind.wrap IntKind.u64 (List.getD v (0 : Nat) (0 : Int) + List.getD v (1 : Nat) (0 : Int))) (32 : Int) + ixor IntKind.u64 (turnI (List.getD v (3 : Nat) (0 : Int)) (16 : Int))
  (IntKind.wrap IntKind.u64 (List.getD v (2 : Nat) (0 : Int) + List.getD v (3 : Nat) (0 : Int)))) :: List.set (List.set (List.set (List.replicate (nat_lit 3) (0 : Int)) (nat_lit 0) (ixor IntKind.u64 (turnI (ixor IntKind.u64
  (turnI (List.getD v (1 : Nat) (0 : Int)) (13 : Int)) (IntKind.wrap IntKind.u64 (List.getD v (0 : Nat) (0 : Int) + List.getD v (1 : Nat) (0 : Int)))) (17 : Int)) (IntKind.wrap IntKind.u64 (IntKind.wrap IntKind.u64
  (List.getD v (2 : Nat) (0 : Int) + List.getD v (3 : Nat) (0 : Int)) + ixor IntKind.u64 (turnI (List.getD v (1 : Nat) (0 : Int)) (13 : Int)) (IntKind.wrap IntKind.u64 (List.getD v (0 : Nat) (0 : Int) + List.getD v (1 :
  Nat) (0 : Int))))))) (nat_lit 1) (turnI (IntKind.wrap IntKind.u64 (IntKind.wrap IntKind.u64 (List.getD v (2 : Nat) (0 : Int) + List.getD v (3 : Nat) (0 : Int)) + ixor IntKind.u64 (turnI (List.getD v (1 : Nat) (0 : Int))
  (13 : Int)) (IntKind.wrap IntKind.u64 (List.getD v (0 : Nat) (0 : Int) + List.getD v (1 : Nat) (0 : Int))))) (32 : Int))) (nat_lit 2) (ixor IntKind.u64 (turnI (ixor IntKind.u64 (turnI (List.getD v (3 : Nat) (0 : Int)) (16
  : Int)) (IntKind.wrap IntKind.u64 (List.getD v (2 : Nat) (0 : Int) + List.getD v (3 : Nat) (0 : Int)))) (21 : Int)) (IntKind.wrap IntKind.u64 (turnI (IntKind.wrap IntKind.u64 (List.getD v (0 : Nat) (0 : Int) + List.getD v
  (1 : Nat) (0 : Int))) (32 : Int) + ixor IntKind.u64 (turnI (List.getD v (3 : Nat) (0 : Int)) (16 : Int)) (IntKind.wrap IntKind.u64 (List.getD v (2 : Nat) (0 : Int) + List.getD v (3 : Nat) (0 : Int)))))) = rndF v
theorem vcd93 (v : List Int) : Pd93 v = vcFun Cd93 (annd93 v) Go.Proofs.Tryd.f93 [⟨.arr 4 (.int .u64), v⟩] [] (outd93 v) := by kernel_rfl

end Go.SL.A

/- The keyed sum: words. -/
namespace Go.SL.A
open Go Go.SL Go.SL.S
set_option maxRecDepth 100000

theorem word_ext (s : ByteArray) (a : Nat) : wordS (ByteArray.extract s a (ByteArray.size s)) 0 = wordS s a := by
  unfold wordS
  refine num_congr fun i _ => ?_
  rw [Nat.zero_add]
  by_cases h : a + i < ByteArray.size s
  · exact byte_ext s a _ i h
  · rw [byte_beyond (s := s) (by omega), byte_beyond (by rw [ByteArray.size_extract]; omega)]
theorem word_ext8 (s : ByteArray) : wordS (ByteArray.extract s 0 8) 0 = wordS s 0 := by
  unfold wordS
  refine num_congr fun i hi => ?_
  have := byte_ext s 0 8 i (by omega)
  rw [Nat.zero_add] at this ⊢
  exact this
theorem wordsTo_len (s : ByteArray) (n : Nat) : (wordsTo s n).length = n := by simp [wordsTo]
theorem wordsTo_step (s : ByteArray) (n : Nat) : wordsTo s n ++ [wordS s (8 * n)] = wordsTo s (n + 1) := by
  unfold wordsTo
  rw [List.range_succ, List.map_append]; rfl
theorem segW (w : Int) : seg (w :: List.replicate 0 0) 0 1 = [w] := rfl
theorem last_fit (s : ByteArray) : 0 ≤ wordS s (8 * (ByteArray.size s / 8)) ∧ wordS s (8 * (ByteArray.size s / 8)) < 72057594037927936 := by
  have h := num_fit s (8 * (ByteArray.size s / 8)) 7
  have e : (256 : Int) ^ 7 = 72057594037927936 := by decide
  rw [e] at h
  unfold wordS
  rw [num_more s _ 7 8 (by omega) fun i h1 h2 => byte_beyond (by omega)]
  exact h

theorem pured97 (s : ByteArray) (hp : ByteArray.size s ≤ 1000000000) : Pd97 s := by
  unfold Pd97
  simp only [eq_self, true_and, and_true, Nat.zero_add, segW, wordsTo_len, List.length_singleton, Int.toNat_natCast]
  refine ⟨by decide, 0, ⟨⟨?_, rfl, rfl⟩, by omega⟩, fun k hk hw => ?_⟩
  · rw [Nat.mul_zero]; exact ByteArray.extract_zero_size.symm
  clear hw
  have hsz : ByteArray.size (ByteArray.extract s (8 * k) (ByteArray.size s)) = ByteArray.size s - 8 * k := by rw [ByteArray.size_extract]; omega
  have hx := word_ext s (8 * k)
  by_cases h : (8 : Int) ≤ (ByteArray.size (ByteArray.extract s (8 * k) (ByteArray.size s)) : Int)
  · have h8 : 8 * k + 8 ≤ ByteArray.size s := by omega
    rw [decide_eq_true h, cond_true, word_ext8, hx]
    refine ⟨⟨by omega, h, by rw [ByteArray.size_extract]; omega, by omega, by omega⟩, ⟨by omega, h⟩, k + 1, ⟨?_, rfl, ?_⟩, by omega, by omega⟩
    · rw [hsz, ByteArray.extract_extract, show 8 * k + 8 = 8 * (k + 1) by omega]
      congr 1; omega
    · show List.drop 0 (wordsTo s k) ++ [wordS s (8 * k)] = _
      rw [List.drop_zero, wordsTo_step]
  · have hk2 : k = ByteArray.size s / 8 := by omega
    subst hk2
    rw [decide_eq_false h, cond_false, hx]
    have hl := last_fit s
    rw [or_len hl]
    refine ⟨⟨by omega, by omega, by omega⟩, rfl, ?_⟩
    show List.drop 0 (wordsTo s (ByteArray.size s / 8)) ++ [_] = _
    rw [List.drop_zero]; rfl

theorem hwd120 {x n : Int} (hw : Go.SL.allP (List.flatMap (fun a : AV => a.t.wf a.x) [⟨.int .u64, x⟩, ⟨.int .i64, n⟩] ++ List.flatMap Blk.wf [])) : 0 ≤ x ∧ x < 18446744073709551616 := by
  simp only [List.flatMap_cons, List.flatMap_nil, Ty.wf, List.append_nil, List.cons_append, List.nil_append, Go.SL.allP] at hw
  have h1 : (0 : Int) ≤ x := hw.1
  have h2 : x ≤ 18446744073709551615 := hw.2.1
  omega
theorem left_fit {x : Int} (hx : 0 ≤ x ∧ x < 18446744073709551616) : ∀ n, n ≤ 63 → 0 ≤ leftTo x n ∧ leftTo x n < 18446744073709551616 := fun n hn => by
  have := left_turn hx (n := (n : Int)) (by omega)
  rw [Int.toNat_natCast] at this
  rw [this]; exact turn_fit hx
theorem pured120 (x n : Int) (hp : 0 ≤ n ∧ n < 64) (hx : 0 ≤ x ∧ x < 18446744073709551616) : Pd120 x n := by
  unfold Pd120
  simp only [eq_self, true_and, and_true]
  refine ⟨0, ⟨⟨rfl, rfl⟩, by omega⟩, fun i hi hw => ?_⟩
  clear hw
  by_cases h : (i : Int) < n
  · rw [decide_eq_true h, cond_true]
    have hf := left_fit hx i (by omega)
    have hs : leftTo x (i + 1) = IntKind.u64.wrap (2 * leftTo x i) + (if 9223372036854775808 ≤ leftTo x i then 1 else 0) := rfl
    generalize leftTo x i = y at *
    by_cases ht : 9223372036854775808 ≤ y
    · rw [if_pos ht] at hs
      rw [decide_eq_true ht, cond_true]
      exact ⟨i + 1, ⟨by rw [hs, wrap_u64, wrap_u64]; omega, step_i (by omega)⟩, by omega, by omega⟩
    · rw [if_neg ht, Int.add_zero] at hs
      rw [decide_eq_false ht, cond_false]
      exact ⟨i + 1, ⟨hs.symm, step_i (by omega)⟩, by omega, by omega⟩
  · have : i = n.toNat := by omega
    rw [decide_eq_false h, cond_false, this]
    exact left_turn hx hp

theorem pured91 (s : ByteArray) (a : Int) (hp : 0 ≤ a ∧ a ≤ 1000000000) : Pd91 s a := by
  unfold Pd91
  simp only [eq_self, true_and, and_true]
  refine ⟨0, ⟨⟨rfl, by omega⟩, by omega⟩, fun k hk hw => ?_⟩
  clear hw
  by_cases h : (0 : Int) ≤ 7 - (k : Int)
  · have hk7 : k ≤ 7 := by omega
    have e1 : IntKind.i64.wrap (a + (7 - (k : Int))) = a + (7 - (k : Int)) := w64 (by omega) (by omega)
    have e2 : (a + (7 - (k : Int))).toNat = a.toNat + 8 - (k + 1) := by omega
    have e3 : IntKind.i64.wrap (7 - (k : Int) - 1) = 7 - ((k + 1 : Nat) : Int) := by rw [w64 (by omega) (by omega)]; omega
    have hl := num_low s (a.toNat + 8 - (k + 1)) k
    rw [show a.toNat + 8 - (k + 1) + 1 = a.toNat + 8 - k by omega] at hl
    have hb := byte_fit s (a.toNat + 8 - (k + 1))
    have hn := num_fit s (a.toNat + 8 - (k + 1)) (k + 1)
    have hp8 : (256 : Int) ^ (k + 1) ≤ 18446744073709551616 := by
      have h1 : 256 ^ (k + 1) ≤ 256 ^ 8 := Nat.pow_le_pow_right (by decide) (by omega)
      have h2 : (256 : Int) ^ (k + 1) = ((256 ^ (k + 1) : Nat) : Int) := by simp
      have h3 : (256 : Nat) ^ 8 = 18446744073709551616 := by decide
      rw [h2]; omega
    rw [decide_eq_true h, cond_true, e1, e2, e3]
    have hbe : ByteArray.size s ≤ a.toNat + 8 - (k + 1) → byteAt s (a.toNat + 8 - (k + 1)) = 0 := fun h => byte_beyond h
    generalize byteAt s (a.toNat + 8 - (k + 1)) = b at *
    generalize hN : numTo s (a.toNat + 8 - (k + 1)) (k + 1) = N at *
    have hn2 := num_fit s (a.toNat + 8 - k) k
    generalize numTo s (a.toNat + 8 - k) k = M at *
    by_cases h2 : a + (7 - (k : Int)) < (ByteArray.size s : Int)
    · rw [decide_eq_true h2, cond_true]
      refine ⟨⟨by omega, h2⟩, k + 1, ⟨?_, rfl⟩, by omega, by omega⟩
      rw [hN, w_u64 (x := 256 * M) (by omega) (by omega), w_u64 (x := b) (by omega) (by omega), w_u64 (by omega) (by omega)]
      exact hl.symm
    · rw [decide_eq_false h2, cond_false]
      have hb0 := hbe (by omega)
      refine ⟨k + 1, ⟨?_, rfl⟩, by omega, by omega⟩
      rw [hN, w_u64 (x := 256 * M) (by omega) (by omega)]
      omega
  · have : k = 8 := by omega
    subst this
    rw [decide_eq_false h, cond_false]
    unfold wordS
    rw [Nat.add_sub_cancel]

theorem pured92 (s : ByteArray) (hp : ByteArray.size s ≤ 1000000000) : Pd92 s := by
  unfold Pd92
  have d := tdm (ByteArray.size s : Int) (k := 8) (by decide)
  have d2 := tdm (ByteArray.size s : Int) (k := 256) (by decide)
  have e1 : IntKind.i64.wrap ((ByteArray.size s : Int).tdiv 8) = ((ByteArray.size s / 8 : Nat) : Int) := by rw [w64 (by omega) (by omega)]; omega
  have e2 : IntKind.i64.wrap (8 * ((ByteArray.size s / 8 : Nat) : Int)) = ((8 * (ByteArray.size s / 8) : Nat) : Int) := by rw [w64 (by omega) (by omega)]; omega
  have e3 : IntKind.u64.wrap ((ByteArray.size s : Int).tmod 256) = ((ByteArray.size s % 256 : Nat) : Int) := by rw [w_u64 (by omega) (by omega)]; omega
  have hl := last_fit s
  have e4 : IntKind.u64.wrap (((ByteArray.size s % 256 : Nat) : Int) * 72057594037927936) = ((ByteArray.size s % 256 : Nat) : Int) * 72057594037927936 := w_u64 (by omega) (by omega)
  have e5 : IntKind.u64.wrap (wordS s (8 * (ByteArray.size s / 8)) + ((ByteArray.size s % 256 : Nat) : Int) * 72057594037927936) = lastW s := w_u64 (by omega) (by omega)
  simp only [eq_self, true_and, and_true, Nat.zero_add, segW, wordsTo_len, List.length_singleton, e1, e2, e3, e4, Int.toNat_natCast, e5]
  refine ⟨by decide, 0, ⟨⟨rfl, rfl, rfl⟩, by omega⟩, fun k hk hw => ?_⟩
  clear hw
  by_cases h : (k : Int) < ((ByteArray.size s / 8 : Nat) : Int)
  · have e6 : IntKind.i64.wrap (8 * (k : Int)) = ((8 * k : Nat) : Int) := by rw [w64 (by omega) (by omega)]; omega
    rw [decide_eq_true h, cond_true, e6, Int.toNat_natCast]
    refine ⟨⟨⟨by omega, by omega⟩, by omega, by omega⟩, k + 1, ⟨rfl, by rw [w64 (by omega) (by omega)]; omega, ?_⟩, by omega, by omega⟩
    show List.drop 0 (wordsTo s k) ++ [wordS s (8 * k)] = _
    rw [List.drop_zero, wordsTo_step]
  · have hk2 : k = ByteArray.size s / 8 := by omega
    rw [decide_eq_false h, cond_false, hk2]
    refine ⟨⟨by omega, by omega⟩, by decide, ⟨by omega, by omega⟩, rfl, ?_⟩
    show List.drop 0 (wordsTo s (ByteArray.size s / 8)) ++ [lastW s] = _
    rw [List.drop_zero]; rfl

theorem hwd93 {v : List Int} (hw : Go.SL.allP (List.flatMap (fun a : AV => a.t.wf a.x) [⟨.arr 4 (.int .u64), v⟩] ++ List.flatMap Blk.wf [])) : v.length = 4 := by
  simp only [List.flatMap_cons, List.flatMap_nil, Ty.wf, List.append_nil, List.cons_append, List.nil_append, Go.SL.allP] at hw
  exact hw.1
theorem pured93 (v : List Int) (hl : v.length = 4) : Pd93 v := by
  unfold Pd93
  match v, hl with
  | [a, b, c, d], _ =>
    simp only [eq_self, true_and, and_true]
    refine ⟨by decide, ⟨by decide, by decide⟩, ⟨by decide, by decide⟩, ⟨by decide, by decide⟩, ⟨by decide, by decide⟩, ⟨by decide, by decide⟩, ⟨by decide, by decide⟩, rfl⟩
end Go.SL.A

/- Functions do what they are held to do. -/
namespace Go.SL.A
open Go Go.SL Go.SL.S
theorem sndd97 : Sound Go.Proofs.Tryd.prog Gd97 := sndd95.add ⟨_, Go.Proofs.Tryd.func97, by kernel_rfl, by kernel_rfl⟩ (by
  intro args ins out h hp
  unfold spd97 at h
  split at h
  · rename_i s
    cases h
    exact vcFun_ok (C := Cd97) good sndd95 Meth.none mix Go.Proofs.Tryd.func97 (annd97 s) (fun hw => by rw [← vcd97 s]; exact pured97 s hp)
  · cases h)

theorem sndd120 : Sound Go.Proofs.Tryd.prog Gd120 := sndd97.add ⟨_, Go.Proofs.Tryd.func120, by kernel_rfl, by kernel_rfl⟩ (by
  intro args ins out h hp
  unfold spd120 at h
  split at h
  · rename_i x n
    cases h
    exact vcFun_ok (C := Cd120) good sndd97 Meth.none mix Go.Proofs.Tryd.func120 (annd120 x n) (fun hw => by rw [← vcd120 x n]; exact pured120 x n hp (hwd120 hw))
  · cases h)

theorem sndd91 : Sound Go.Proofs.Tryd.prog Gd91 := sndd120.add ⟨_, Go.Proofs.Tryd.func91, by kernel_rfl, by kernel_rfl⟩ (by
  intro args ins out h hp
  unfold spd91 at h
  split at h
  · rename_i s a
    cases h
    exact vcFun_ok (C := Cd91) good sndd120 Meth.none mix Go.Proofs.Tryd.func91 (annd91 s a) (fun hw => by rw [← vcd91 s a]; exact pured91 s a hp)
  · cases h)

theorem sndd92 : Sound Go.Proofs.Tryd.prog Gd92 := sndd91.add ⟨_, Go.Proofs.Tryd.func92, by kernel_rfl, by kernel_rfl⟩ (by
  intro args ins out h hp
  unfold spd92 at h
  split at h
  · rename_i s
    cases h
    exact vcFun_ok (C := Cd92) good sndd91 Meth.none mix Go.Proofs.Tryd.func92 (annd92 s) (fun hw => by rw [← vcd92 s]; exact pured92 s hp)
  · cases h)

theorem sndd93 : Sound Go.Proofs.Tryd.prog Gd93 := sndd92.add ⟨_, Go.Proofs.Tryd.func93, by kernel_rfl, by kernel_rfl⟩ (by
  intro args ins out h hp
  unfold spd93 at h
  split at h
  · rename_i v
    cases h
    exact vcFun_ok (C := Cd93) good sndd92 Meth.none mix Go.Proofs.Tryd.func93 (annd93 v) (fun hw => by rw [← vcd93 v]; exact pured93 v (hwd93 hw))
  · cases h)

end Go.SL.A

/- Functions and what they are held to do: bound to their code. -/
namespace Go.SL.A
open Go Go.SL Go.SL.S
set_option maxRecDepth 100000
noncomputable def Cd76 : Ctx := ⟨Go.Proofs.Tryd.prog, D, Gd93, (fun _ _ => none), fun _ => []⟩
def annd76 (k : List Int) (s : ByteArray) : Nat → St → Option Ann := fun _ _ => some ⟨Nat, [7, 8, 36, 37], [2], fun i => [(38, .v (.int .i64) (i : Int))], fun i => [(1, some ⟨false, true, .arr 4 (.int .u64), [sipS k s i]⟩)], fun i => i ≤ ByteArray.size s / 8 + 1, fun i => ByteArray.size s / 8 + 1 - i⟩
def outd76 (k : List Int) (s : ByteArray) : COut := ⟨[ByteArray.size s ≤ 1000000000], .v (.int .u64) (sipF k s), [], []⟩
def spd76 : Spec := fun args ins => match args, ins with
  | [⟨.arr 16 (.int .u8), k⟩, ⟨.str, s⟩], [] => some (outd76 k s)
  | _, _ => none
def Gd76 := addG Gd93 76 spd76
def Pd76 (k : List Int) (s : ByteArray) : Prop :=
  ((0 : Int) ≤ (8 : Int) ∧ (8 : Int) ≤ (↑(16 : Nat) : Int) ∧ (16 : Nat) ≤ (9223372036854775807 : Nat) ∧ (8 : Nat) ≤ List.length k ∧ ByteArray.size (bytesOf (seg k (0 : Nat) (8 : Nat))) ≤ (8 : Nat) ∧ (0 : Int) ≤ (8 : Int) ∧
  (8 : Int) ≤ (↑(16 : Nat) : Int) ∧ (16 : Nat) ≤ (9223372036854775807 : Nat) ∧ (16 : Nat) ≤ List.length k ∧ ByteArray.size (bytesOf (seg k (8 : Nat) (8 : Nat))) ≤ (8 : Nat)) ∧ (((0 : Int) ≤ (0 : Int) ∧ (0 : Int) < (↑(4 :
  Nat) : Int)) ∧ (0 : Nat) < (4 : Nat) ∧ ((0 : Int) ≤ (1 : Int) ∧ (1 : Int) < (↑(4 : Nat) : Int)) ∧ (1 : Nat) < (4 : Nat) ∧ ((0 : Int) ≤ (2 : Int) ∧ (2 : Int) < (↑(4 : Nat) : Int)) ∧ (2 : Nat) < (4 : Nat) ∧ ((0 : Int) ≤ (3
  : Int) ∧ (3 : Int) < (↑(4 : Nat) : Int)) ∧ (3 : Nat) < (4 : Nat)) ∧ ByteArray.size s ≤ (1000000000 : Nat) ∧ ∃ (x : Nat), (((0 : Nat) = (0 : Nat) ∧ (0 : Nat) = (0 : Nat) ∧ (0 : Nat) = (0 : Nat) ∧ ByteArray.size s / (8 :
  Nat) + (1 : Nat) = ByteArray.size s / (8 : Nat) + (1 : Nat) ∧ (↑(ByteArray.size s / (8 : Nat) + (1 : Nat)) : Int) = (↑(ByteArray.size s / (8 : Nat) + (1 : Nat)) : Int) ∧ (0 : Int) = (↑x : Int) ∧ ixor IntKind.u64 (wordS
  (bytesOf (seg k (0 : Nat) (8 : Nat))) (0 : Nat)) (List.getD sgL (0 : Nat) (0 : Int)) :: List.set (List.set (List.set (List.replicate (nat_lit 3) (0 : Int)) (nat_lit 0) (ixor IntKind.u64 (wordS (bytesOf (seg k (8 : Nat) (8
  : Nat))) (0 : Nat)) (List.getD sgL (1 : Nat) (0 : Int)))) (nat_lit 1) (ixor IntKind.u64 (wordS (bytesOf (seg k (0 : Nat) (8 : Nat))) (0 : Nat)) (List.getD sgL (2 : Nat) (0 : Int)))) (nat_lit 2) (ixor IntKind.u64 (wordS
  (bytesOf (seg k (8 : Nat) (8 : Nat))) (0 : Nat)) (List.getD sgL (3 : Nat) (0 : Int))) = sipS k s x ∧ false = false ∧ wordsF s = wordsF s ∧ false = false) ∧ x ≤ ByteArray.size s / (8 : Nat) + (1 : Nat)) ∧ ∀ (x : Nat), x ≤
  ByteArray.size s / (8 : Nat) + (1 : Nat) → (IntKind.min IntKind.i64 ≤ (↑x : Int) ∧ (↑x : Int) ≤ IntKind.max IntKind.i64 ∧ ∀ (y : List Int), List.Mem y [sipS k s x] → List.length y = (4 : Nat) ∧ ∀ (y_1 : Int), List.Mem y_1
  y → IntKind.min IntKind.u64 ≤ y_1 ∧ y_1 ≤ IntKind.max IntKind.u64) → bif decide ((↑x : Int) < (↑(ByteArray.size s / (8 : Nat) + (1 : Nat)) : Int)) then (((0 : Int) ≤ (↑x : Int) ∧ (↑x : Int) < (↑(ByteArray.size s / (8 :
  Nat) + (1 : Nat)) : Int)) ∧ (0 : Nat) + Int.toNat (↑x : Int) < List.length (wordsF s)) ∧ (((0 : Int) ≤ (3 : Int) ∧ (3 : Int) < (↑(4 : Nat) : Int)) ∧ (3 : Nat) < (4 : Nat) ∧ ((0 : Int) ≤ (3 : Int) ∧ (3 : Int) < (↑(4 : Nat)
  : Int)) ∧ (3 : Nat) < (4 : Nat)) ∧ ((0 : Int) ≤ (2 : Int) ∧ (2 : Int) ≤ (1000 : Int)) ∧ (((0 : Int) ≤ (0 : Int) ∧ (0 : Int) < (↑(4 : Nat) : Int)) ∧ (0 : Nat) < (4 : Nat) ∧ ((0 : Int) ≤ (0 : Int) ∧ (0 : Int) < (↑(4 : Nat)
  : Int)) ∧ (0 : Nat) < (4 : Nat)) ∧ ∃ (y : Nat), ((0 : Nat) = (0 : Nat) ∧ (0 : Nat) = (0 : Nat) ∧ (0 : Nat) = (0 : Nat) ∧ ByteArray.size s / (8 : Nat) + (1 : Nat) = ByteArray.size s / (8 : Nat) + (1 : Nat) ∧
  (↑(ByteArray.size s / (8 : Nat) + (1 : Nat)) : Int) = (↑(ByteArray.size s / (8 : Nat) + (1 : Nat)) : Int) ∧ IntKind.wrap IntKind.i64 ((↑x : Int) + (1 : Int)) = (↑y : Int) ∧ List.set (rndN (List.set (sipS k s x) (3 : Nat)
  (ixor IntKind.u64 (List.getD (sipS k s x) (3 : Nat) (0 : Int)) (List.getD (wordsF s) ((0 : Nat) + Int.toNat (↑x : Int)) (0 : Int)))) (2 : Nat)) (0 : Nat) (ixor IntKind.u64 (List.getD (rndN (List.set (sipS k s x) (3 : Nat)
  (ixor IntKind.u64 (List.getD (sipS k s x) (3 : Nat) (0 : Int)) (List.getD (wordsF s) ((0 : Nat) + Int.toNat (↑x : Int)) (0 : Int)))) (2 : Nat)) (0 : Nat) (0 : Int)) (List.getD (wordsF s) ((0 : Nat) + Int.toNat (↑x : Int))
  (0 : Int))) = sipS k s y ∧ false = false ∧ wordsF s = wordsF s ∧ false = false) ∧ y ≤ ByteArray.size s / (8 : Nat) + (1 : Nat) ∧ ByteArray.size s / (8 : Nat) + (1 : Nat) - y < ByteArray.size s / (8 : Nat) + (1 : Nat) - x
  else (((0 : Int) ≤ (2 : Int) ∧ (2 : Int) < (↑(4 : Nat) : Int)) ∧ (2 : Nat) < (4 : Nat) ∧ ((0 : Int) ≤ (2 : Int) ∧ (2 : Int) < (↑(4 : Nat) : Int)) ∧ (2 : Nat) < (4 : Nat)) ∧ ((0 : Int) ≤ (4 : Int) ∧ (4 : Int) ≤ (1000 :
  Int)) ∧ (((0 : Int) ≤ (0 : Int) ∧ (0 : Int) < (↑(4 : Nat) : Int)) ∧ (0 : Nat) < (4 : Nat) ∧ ((0 : Int) ≤ (1 : Int) ∧ (1 : Int) < (↑(4 : Nat) : Int)) ∧ (1 : Nat) < (4 : Nat) ∧ ((0 : Int) ≤ (2 : Int) ∧ (2 : Int) < (↑(4 :
  Nat) : Int)) ∧ (2 : Nat) < (4 : Nat) ∧ ((0 : Int) ≤ (3 : Int) ∧ (3 : Int) < (↑(4 : Nat) : Int)) ∧ (3 : Nat) < (4 : Nat)) ∧ ixor IntKind.u64 (ixor IntKind.u64 (ixor IntKind.u64 (List.getD (rndN (List.set (sipS k s x) (2 :
  Nat) (ixor IntKind.u64 (List.getD (sipS k s x) (2 : Nat) (0 : Int)) (255 : Int))) (4 : Nat)) (0 : Nat) (0 : Int)) (List.getD (rndN (List.set (sipS k s x) (2 : Nat) (ixor IntKind.u64 (List.getD (sipS k s x) (2 : Nat) (0 :
  Int)) (255 : Int))) (4 : Nat)) (1 : Nat) (0 : Int))) (List.getD (rndN (List.set (sipS k s x) (2 : Nat) (ixor IntKind.u64 (List.getD (sipS k s x) (2 : Nat) (0 : Int)) (255 : Int))) (4 : Nat)) (2 : Nat) (0 : Int)))
  (List.getD (rndN (List.set (sipS k s x) (2 : Nat) (ixor IntKind.u64 (List.getD (sipS k s x) (2 : Nat) (0 : Int)) (255 : Int))) (4 : Nat)) (3 : Nat) (0 : Int)) = sipF k s
theorem vcd76 (k : List Int) (s : ByteArray) : Pd76 k s = vcFun Cd76 (annd76 k s) Go.Proofs.Tryd.f76 [⟨.arr 16 (.int .u8), k⟩, ⟨.str, s⟩] [] (outd76 k s) := by kernel_rfl

noncomputable def Cd73 : Ctx := ⟨Go.Proofs.Tryd.prog, D, Gd76, (fun _ _ => none), fun _ => []⟩
def annd73 (k : List Int) (s : ByteArray) : Nat → St → Option Ann := fun _ _ => some ⟨Nat, [8, 9], [2], fun i => [(10, .v (.int .i64) (i : Int))], fun i => [(1, some ⟨false, true, .arr 4 (.int .u64), [sipS k s i]⟩)], fun i => i ≤ ByteArray.size s / 8 + 1, fun i => ByteArray.size s / 8 + 1 - i⟩
def outd73 (k : List Int) (s : ByteArray) : COut := ⟨[ByteArray.size s ≤ 1000000000], .v (.int .u64) (sipF k s), [], []⟩
def spd73 : Spec := fun args ins => match args, ins with
  | [⟨.arr 16 (.int .u8), k⟩, ⟨.str, s⟩], [] => some (outd73 k s)
  | _, _ => none
def Gd73 := addG Gd76 73 spd73
def Pd73 (k : List Int) (s : ByteArray) : Prop :=
  ((16 : Nat) ≤ (9223372036854775807 : Nat) ∧ (16 : Nat) ≤ List.length k) ∧ (((0 : Int) ≤ (0 : Int) ∧ (0 : Int) ≤ (1000000000 : Int)) ∧ (0 : Int) ≤ (8 : Int) ∧ (8 : Int) ≤ (1000000000 : Int)) ∧ ByteArray.size s ≤
  (1000000000 : Nat) ∧ ∃ (x : Nat), (((0 : Nat) = (0 : Nat) ∧ (0 : Nat) = (0 : Nat) ∧ ByteArray.size s / (8 : Nat) + (1 : Nat) = ByteArray.size s / (8 : Nat) + (1 : Nat) ∧ (0 : Int) = (↑x : Int) ∧ ixor IntKind.u64 (wordS
  (bytesOf (seg k (0 : Nat) (16 : Nat))) (0 : Nat)) (8317987319222330741 : Int) :: List.set (List.set (List.set (List.replicate (nat_lit 3) (0 : Int)) (nat_lit 0) (ixor IntKind.u64 (wordS (bytesOf (seg k (0 : Nat) (16 :
  Nat))) (8 : Nat)) (7237128888997146477 : Int))) (nat_lit 1) (ixor IntKind.u64 (wordS (bytesOf (seg k (0 : Nat) (16 : Nat))) (0 : Nat)) (7816392313619706465 : Int))) (nat_lit 2) (ixor IntKind.u64 (wordS (bytesOf (seg k (0
  : Nat) (16 : Nat))) (8 : Nat)) (8387220255154660723 : Int)) = sipS k s x ∧ false = false ∧ wordsF s = wordsF s ∧ false = false) ∧ x ≤ ByteArray.size s / (8 : Nat) + (1 : Nat)) ∧ ∀ (x : Nat), x ≤ ByteArray.size s / (8 :
  Nat) + (1 : Nat) → (IntKind.min IntKind.i64 ≤ (↑x : Int) ∧ (↑x : Int) ≤ IntKind.max IntKind.i64 ∧ ∀ (y : List Int), List.Mem y [sipS k s x] → List.length y = (4 : Nat) ∧ ∀ (y_1 : Int), List.Mem y_1 y → IntKind.min
  IntKind.u64 ≤ y_1 ∧ y_1 ≤ IntKind.max IntKind.u64) → bif decide ((↑x : Int) < (↑(ByteArray.size s / (8 : Nat) + (1 : Nat)) : Int)) then (((0 : Int) ≤ (3 : Int) ∧ (3 : Int) < (↑(4 : Nat) : Int)) ∧ (3 : Nat) < (4 : Nat) ∧
  ((0 : Int) ≤ (↑x : Int) ∧ (↑x : Int) < (↑(ByteArray.size s / (8 : Nat) + (1 : Nat)) : Int)) ∧ (0 : Nat) + Int.toNat (↑x : Int) < List.length (wordsF s) ∧ ((0 : Int) ≤ (3 : Int) ∧ (3 : Int) < (↑(4 : Nat) : Int)) ∧ (3 :
  Nat) < (4 : Nat)) ∧ (((0 : Int) ≤ (0 : Int) ∧ (0 : Int) < (↑(4 : Nat) : Int)) ∧ (0 : Nat) < (4 : Nat) ∧ ((0 : Int) ≤ (↑x : Int) ∧ (↑x : Int) < (↑(ByteArray.size s / (8 : Nat) + (1 : Nat)) : Int)) ∧ (0 : Nat) + Int.toNat
  (↑x : Int) < List.length (wordsF s) ∧ ((0 : Int) ≤ (0 : Int) ∧ (0 : Int) < (↑(4 : Nat) : Int)) ∧ (0 : Nat) < (4 : Nat)) ∧ ∃ (y : Nat), ((0 : Nat) = (0 : Nat) ∧ (0 : Nat) = (0 : Nat) ∧ ByteArray.size s / (8 : Nat) + (1 :
  Nat) = ByteArray.size s / (8 : Nat) + (1 : Nat) ∧ IntKind.wrap IntKind.i64 ((↑x : Int) + (1 : Int)) = (↑y : Int) ∧ List.set (rndF (rndF (List.set (sipS k s x) (3 : Nat) (ixor IntKind.u64 (List.getD (sipS k s x) (3 : Nat)
  (0 : Int)) (List.getD (wordsF s) ((0 : Nat) + Int.toNat (↑x : Int)) (0 : Int)))))) (0 : Nat) (ixor IntKind.u64 (List.getD (rndF (rndF (List.set (sipS k s x) (3 : Nat) (ixor IntKind.u64 (List.getD (sipS k s x) (3 : Nat) (0
  : Int)) (List.getD (wordsF s) ((0 : Nat) + Int.toNat (↑x : Int)) (0 : Int)))))) (0 : Nat) (0 : Int)) (List.getD (wordsF s) ((0 : Nat) + Int.toNat (↑x : Int)) (0 : Int))) = sipS k s y ∧ false = false ∧ wordsF s = wordsF s
  ∧ false = false) ∧ y ≤ ByteArray.size s / (8 : Nat) + (1 : Nat) ∧ ByteArray.size s / (8 : Nat) + (1 : Nat) - y < ByteArray.size s / (8 : Nat) + (1 : Nat) - x else (((0 : Int) ≤ (2 : Int) ∧ (2 : Int) < (↑(4 : Nat) : Int))
  ∧ (2 : Nat) < (4 : Nat) ∧ ((0 : Int) ≤ (2 : Int) ∧ (2 : Int) < (↑(4 : Nat) : Int)) ∧ (2 : Nat) < (4 : Nat)) ∧ (((0 : Int) ≤ (0 : Int) ∧ (0 : Int) < (↑(4 : Nat) : Int)) ∧ (0 : Nat) < (4 : Nat) ∧ ((0 : Int) ≤ (1 : Int) ∧ (1
  : Int) < (↑(4 : Nat) : Int)) ∧ (1 : Nat) < (4 : Nat) ∧ ((0 : Int) ≤ (2 : Int) ∧ (2 : Int) < (↑(4 : Nat) : Int)) ∧ (2 : Nat) < (4 : Nat) ∧ ((0 : Int) ≤ (3 : Int) ∧ (3 : Int) < (↑(4 : Nat) : Int)) ∧ (3 : Nat) < (4 : Nat)) ∧
  ixor IntKind.u64 (ixor IntKind.u64 (ixor IntKind.u64 (List.getD (rndF (rndF (rndF (rndF (List.set (sipS k s x) (2 : Nat) (ixor IntKind.u64 (List.getD (sipS k s x) (2 : Nat) (0 : Int)) (255 : Int))))))) (0 : Nat) (0 :
  Int)) (List.getD (rndF (rndF (rndF (rndF (List.set (sipS k s x) (2 : Nat) (ixor IntKind.u64 (List.getD (sipS k s x) (2 : Nat) (0 : Int)) (255 : Int))))))) (1 : Nat) (0 : Int))) (List.getD (rndF (rndF (rndF (rndF (List.set
  (sipS k s x) (2 : Nat) (ixor IntKind.u64 (List.getD (sipS k s x) (2 : Nat) (0 : Int)) (255 : Int))))))) (2 : Nat) (0 : Int))) (List.getD (rndF (rndF (rndF (rndF (List.set (sipS k s x) (2 : Nat) (ixor IntKind.u64
  (List.getD (sipS k s x) (2 : Nat) (0 : Int)) (255 : Int))))))) (3 : Nat) (0 : Int)) = sipF k s
theorem vcd73 (k : List Int) (s : ByteArray) : Pd73 k s = vcFun Cd73 (annd73 k s) Go.Proofs.Tryd.f73 [⟨.arr 16 (.int .u8), k⟩, ⟨.str, s⟩] [] (outd73 k s) := by kernel_rfl

end Go.SL.A

/- The keyed sum. -/
namespace Go.SL.A
open Go Go.SL Go.SL.S
set_option maxRecDepth 100000

theorem hwd76 {k : List Int} {s : ByteArray} (hw : Go.SL.allP (List.flatMap (fun a : AV => a.t.wf a.x) [⟨.arr 16 (.int .u8), k⟩, ⟨.str, s⟩] ++ List.flatMap Blk.wf [])) : k.length = 16 ∧ ∀ x ∈ k, 0 ≤ x ∧ x ≤ 255 := by
  simp only [List.flatMap_cons, List.flatMap_nil, Ty.wf, List.append_nil, List.cons_append, List.nil_append, Go.SL.allP] at hw
  exact ⟨hw.1, fun x hx => hw.2.1 x hx⟩
theorem seg_mem {k : List Int} {a n : Nat} {x : Int} (h : x ∈ seg k a n) : x ∈ k := by
  unfold seg at h
  exact List.mem_of_mem_drop (List.mem_of_mem_take h)
theorem key_word {k : List Int} (hb : ∀ x ∈ k, 0 ≤ x ∧ x ≤ 255) (a : Nat) : wordS (bytesOf (seg k a 8)) 0 = wordS (bytesOf k) a := by
  unfold wordS
  refine num_congr fun i hi => ?_
  rw [byte_of (fun x hx => hb x (seg_mem hx)), byte_of hb, Nat.zero_add]
  unfold seg
  rw [List.getD_eq_getElem?_getD, List.getElem?_take, if_pos hi, List.getElem?_drop, ← List.getD_eq_getElem?_getD]
theorem words_len (s : ByteArray) : (wordsF s).length = ByteArray.size s / 8 + 1 := by
  unfold wordsF; rw [List.length_append, wordsTo_len]; rfl
theorem sip_step (k : List Int) (s : ByteArray) {i : Nat} (h : i < ByteArray.size s / 8 + 1) : takeW (sipS k s i) ((wordsF s).getD i 0) = sipS k s (i + 1) := by
  unfold sipS
  rw [take_snoc' (0 : Int) (by rw [words_len]; exact h), List.foldl_append, List.foldl_cons, List.foldl_nil]
theorem sip_end (k : List Int) (s : ByteArray) : sumV (rndN (endA (sipS k s (ByteArray.size s / 8 + 1))) 4) = sipF k s := by
  unfold sipS sipF
  rw [List.take_of_length_le (by rw [words_len]; exact Nat.le_refl _)]
theorem init_sip (k : List Int) (s : ByteArray) : initS k = sipS k s 0 := by
  unfold sipS
  rw [List.take_zero, List.foldl_nil]
theorem set3 (a b c d : Int) : a :: List.set (List.set (List.set (List.replicate 3 0) 0 b) 1 c) 2 d = [a, b, c, d] := rfl
theorem sg_0 : List.getD sgL 0 0 = 8317987319222330741 := rfl
theorem sg_1 : List.getD sgL 1 0 = 7237128888997146477 := rfl
theorem sg_2 : List.getD sgL 2 0 = 7816392313619706465 := rfl
theorem sg_3 : List.getD sgL 3 0 = 8387220255154660723 := rfl
theorem take_eqN (v : List Int) (w : Int) : List.set (rndN (List.set v 3 (ixor .u64 (List.getD v 3 0) w)) 2) 0 (ixor .u64 (List.getD (rndN (List.set v 3 (ixor .u64 (List.getD v 3 0) w)) 2) 0 0) w) = takeW v w := by
  unfold takeW takeB takeA
  exact rfl
theorem rnd2 (v : List Int) : rndF (rndF v) = rndN v 2 := by rw [rndN, rndN, rndN]
theorem rnd4 (v : List Int) : rndF (rndF (rndF (rndF v))) = rndN v 4 := by rw [rndN, rndN, rndN, rndN, rndN]
theorem sum_eqN (v : List Int) : ixor .u64 (ixor .u64 (ixor .u64 (List.getD (rndN (List.set v 2 (ixor .u64 (List.getD v 2 0) 255)) 4) 0 0) (List.getD (rndN (List.set v 2 (ixor .u64 (List.getD v 2 0) 255)) 4) 1 0)) (List.getD (rndN (List.set v 2 (ixor .u64 (List.getD v 2 0) 255)) 4) 2 0)) (List.getD (rndN (List.set v 2 (ixor .u64 (List.getD v 2 0) 255)) 4) 3 0) = sumV (rndN (endA v) 4) := by
  unfold endA sumV
  exact rfl

theorem pured76 (k : List Int) (s : ByteArray) (hp : ByteArray.size s ≤ 1000000000) (hk : k.length = 16 ∧ ∀ x ∈ k, 0 ≤ x ∧ x ≤ 255) : Pd76 k s := by
  obtain ⟨hl, hb⟩ := hk
  unfold Pd76
  have s1 : ByteArray.size (bytesOf (seg k 0 8)) ≤ 8 := by rw [size_of]; unfold seg; rw [List.length_take]; omega
  have s2 : ByteArray.size (bytesOf (seg k 8 8)) ≤ 8 := by rw [size_of]; unfold seg; rw [List.length_take]; omega
  simp only [eq_self, true_and, and_true, Int.toNat_natCast, Nat.zero_add, words_len]
  refine ⟨by and_intros <;> omega, by and_intros <;> omega, hp, 0, ⟨⟨rfl, ?_⟩, by omega⟩, fun i hi hw => ?_⟩
  · rw [key_word hb, key_word hb, sg_0, sg_1, sg_2, sg_3, ← init_sip]
    unfold initS
    exact set3 _ _ _ _
  clear hw
  by_cases h : (i : Int) < ((ByteArray.size s / 8 + 1 : Nat) : Int)
  · rw [decide_eq_true h, cond_true]
    exact ⟨by and_intros <;> omega, by and_intros <;> omega, by and_intros <;> omega, by and_intros <;> omega, i + 1, ⟨by rw [w64 (by omega) (by omega)]; omega, (take_eqN _ _).trans (sip_step k s (by omega))⟩, by omega, by omega⟩
  · have : i = ByteArray.size s / 8 + 1 := by omega
    subst this
    rw [decide_eq_false h, cond_false]
    exact ⟨by and_intros <;> omega, by and_intros <;> omega, by and_intros <;> omega, (sum_eqN _).trans (sip_end k s)⟩

theorem pured73 (k : List Int) (s : ByteArray) (hp : ByteArray.size s ≤ 1000000000) (hk : k.length = 16 ∧ ∀ x ∈ k, 0 ≤ x ∧ x ≤ 255) : Pd73 k s := by
  obtain ⟨hl, hb⟩ := hk
  unfold Pd73
  have e1 : seg k 0 16 = k := by unfold seg; rw [List.drop_zero, List.take_of_length_le (by omega)]
  simp only [eq_self, true_and, and_true, Int.toNat_natCast, Nat.zero_add, words_len, e1]
  refine ⟨by and_intros <;> omega, by and_intros <;> omega, hp, 0, ⟨⟨rfl, ?_⟩, by omega⟩, fun i hi hw => ?_⟩
  · rw [← init_sip]
    unfold initS
    exact set3 _ _ _ _
  clear hw
  by_cases h : (i : Int) < ((ByteArray.size s / 8 + 1 : Nat) : Int)
  · rw [decide_eq_true h, cond_true]
    rw [rnd2]
    exact ⟨by and_intros <;> omega, by and_intros <;> omega, i + 1, ⟨by rw [w64 (by omega) (by omega)]; omega, (take_eqN _ _).trans (sip_step k s (by omega))⟩, by omega, by omega⟩
  · have : i = ByteArray.size s / 8 + 1 := by omega
    subst this
    rw [decide_eq_false h, cond_false]
    rw [rnd4]
    exact ⟨by and_intros <;> omega, by and_intros <;> omega, (sum_eqN _).trans (sip_end k s)⟩
end Go.SL.A

/- Functions do what they are held to do. -/
namespace Go.SL.A
open Go Go.SL Go.SL.S
theorem sndd76 : Sound Go.Proofs.Tryd.prog Gd76 := sndd93.add ⟨_, Go.Proofs.Tryd.func76, by kernel_rfl, by kernel_rfl⟩ (by
  intro args ins out h hp
  unfold spd76 at h
  split at h
  · rename_i k s
    cases h
    exact vcFun_ok (C := Cd76) good sndd93 Meth.none mix Go.Proofs.Tryd.func76 (annd76 k s) (fun hw => by rw [← vcd76 k s]; exact pured76 k s hp (hwd76 hw))
  · cases h)

theorem sndd73 : Sound Go.Proofs.Tryd.prog Gd73 := sndd76.add ⟨_, Go.Proofs.Tryd.func73, by kernel_rfl, by kernel_rfl⟩ (by
  intro args ins out h hp
  unfold spd73 at h
  split at h
  · rename_i k s
    cases h
    exact vcFun_ok (C := Cd73) good sndd76 Meth.none mix Go.Proofs.Tryd.func73 (annd73 k s) (fun hw => by rw [← vcd73 k s]; exact pured73 k s hp (hwd76 hw))
  · cases h)

end Go.SL.A
