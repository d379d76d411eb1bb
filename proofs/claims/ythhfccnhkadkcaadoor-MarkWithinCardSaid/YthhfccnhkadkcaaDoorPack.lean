/- Bits in bytes, a sum of 16 bits, and packets: plain laws. -/
import Derived.Test.YthhfccnhkadkcaaDoorKb
import Derived.Test.YthhfccnhkadkcaaDoorGive

/- Bits in bytes, and a sum of 16 bits: plain functions. -/
namespace Go.SL.S
open Go Go.SL
/-- A byte of bits, at an index. -/
def byteB (L : List Int) (i : Nat) : Int := 128 * L.getD (8 * i) 0 + 64 * L.getD (8 * i + 1) 0 + 32 * L.getD (8 * i + 2) 0 + 16 * L.getD (8 * i + 3) 0 + 8 * L.getD (8 * i + 4) 0 + 4 * L.getD (8 * i + 5) 0 + 2 * L.getD (8 * i + 6) 0 + L.getD (8 * i + 7) 0
/-- Bits as bytes, the highest first. -/
def packB (L : List Int) : List Int := (List.range ((L.length + 7) / 8)).map (byteB L)
/-- Bytes as bits. -/
def unB (xs : List Int) : List Int := (List.range (8 * xs.length)).map fun p => xs.getD (p / 8) 0 / 2 ^ (7 - p % 8) % 2
/-- A number's bits, the highest first. -/
def bitsN (x : Int) (n : Nat) : List Int := (List.range n).map fun i => x / 2 ^ (n - 1 - i) % 2
/-- The number of bits. -/
def numB (L : List Int) : Int := L.foldl (fun a b => 2 * a + b) 0
def Bit (L : List Int) : Prop := ∀ b ∈ L, b = 0 ∨ b = 1
def Byt (L : List Int) : Prop := ∀ b ∈ L, 0 ≤ b ∧ b ≤ 255
end Go.SL.S

/- A sum of 16 bits: plain functions. -/
namespace Go.SL.S
open Go Go.SL
/-- A register with a bit taken in. -/
def bitR (r b : Int) : Int := if r / 32768 = b then 2 * r % 65536 else ixor .i64 (2 * r % 65536) 4129
def byteR (r c : Int) : Int := (bitsN c 8).foldl bitR r
def crcS (r : Int) (xs : List Int) : Int := xs.foldl byteR r
/-- Bytes with their sum behind them. -/
def sealS (xs : List Int) : List Int := xs ++ [crcS 65535 xs / 256, crcS 65535 xs % 256]
end Go.SL.S

/- Bits in bytes: plain laws. -/
namespace Go.SL.A
open Go Go.SL Go.SL.S
set_option maxRecDepth 100000

theorem packB_len (L : List Int) : (packB L).length = (L.length + 7) / 8 := by simp [packB]
theorem packB_at (L : List Int) {i : Nat} (h : i < (L.length + 7) / 8) : (packB L)[i]? = some (byteB L i) := by
  unfold packB; rw [List.getElem?_map, List.getElem?_range h]; rfl
theorem packB_getD (L : List Int) {i : Nat} (h : i < (L.length + 7) / 8) : (packB L).getD i 0 = byteB L i := by
  rw [List.getD_eq_getElem?_getD, packB_at L h]; rfl
theorem getD_end {L : List Int} {p : Nat} (h : L.length ≤ p) : L.getD p 0 = 0 := by
  rw [List.getD_eq_getElem?_getD, List.getElem?_eq_none h]; rfl
theorem bit_at {L : List Int} (h : Bit L) (p : Nat) : L.getD p 0 = 0 ∨ L.getD p 0 = 1 := by
  by_cases hp : p < L.length
  · exact h _ (getD_mem hp)
  · exact Or.inl (getD_end (by omega))
theorem byt_at {L : List Int} (h : Byt L) (p : Nat) : 0 ≤ L.getD p 0 ∧ L.getD p 0 ≤ 255 := by
  by_cases hp : p < L.length
  · exact h _ (getD_mem hp)
  · rw [getD_end (by omega)]; omega
theorem getD_snocI (L : List Int) (b : Int) (p : Nat) : (L ++ [b]).getD p 0 = L.getD p 0 + if p = L.length then b else 0 := by
  simp only [List.getD_eq_getElem?_getD]
  rcases Nat.lt_trichotomy p L.length with h | h | h
  · rw [List.getElem?_append_left h, if_neg (by omega)]; omega
  · rw [h, List.getElem?_concat_length, List.getElem?_eq_none (Nat.le_refl _), if_pos rfl]; simp
  · rw [List.getElem?_eq_none (by simp; omega), List.getElem?_eq_none (by omega), if_neg (by omega)]; simp
theorem byteB_old {L : List Int} {b : Int} {i : Nat} (h : 8 * i + 7 < L.length) : byteB (L ++ [b]) i = byteB L i := by
  unfold byteB
  simp only [getD_snocI]
  rw [if_neg (by omega), if_neg (by omega), if_neg (by omega), if_neg (by omega), if_neg (by omega), if_neg (by omega), if_neg (by omega), if_neg (by omega)]
  omega
theorem byteB_new {L : List Int} {b : Int} {i : Nat} (h : i = L.length / 8) : byteB (L ++ [b]) i = byteB L i + b * 2 ^ (7 - L.length % 8) := by
  obtain ⟨r, hr⟩ : ∃ r, L.length % 8 = r := ⟨_, rfl⟩
  have hl : L.length = 8 * i + r := by omega
  have e : ∀ j, (if 8 * i + j = L.length then b else 0) = if j = r then b else 0 := fun j => by
    by_cases h : j = r
    · rw [if_pos h, if_pos (by omega)]
    · rw [if_neg h, if_neg (by omega)]
  have e0 : (if 8 * i = L.length then b else 0) = if 0 = r then b else 0 := e 0
  unfold byteB
  simp only [getD_snocI, e, e0, hr]
  have h8 : r < 8 := by omega
  rcases (show r = 0 ∨ r = 1 ∨ r = 2 ∨ r = 3 ∨ r = 4 ∨ r = 5 ∨ r = 6 ∨ r = 7 by omega) with rfl | rfl | rfl | rfl | rfl | rfl | rfl | rfl <;> simp <;> omega
theorem byteB_fit {L : List Int} (h : Bit L) (i : Nat) : 0 ≤ byteB L i ∧ byteB L i ≤ 255 := by
  unfold byteB
  have h0 := bit_at h (8 * i)
  have h1 := bit_at h (8 * i + 1)
  have h2 := bit_at h (8 * i + 2)
  have h3 := bit_at h (8 * i + 3)
  have h4 := bit_at h (8 * i + 4)
  have h5 := bit_at h (8 * i + 5)
  have h6 := bit_at h (8 * i + 6)
  have h7 := bit_at h (8 * i + 7)
  omega
theorem packB_byt {L : List Int} (h : Bit L) : Byt (packB L) := fun x hx => by
  obtain ⟨i, -, rfl⟩ := List.mem_map.1 hx
  exact byteB_fit h i
/-- A byte's bits that are not laid yet are zero. -/
theorem byteB_low {L : List Int} {i : Nat} (h : i = L.length / 8) : byteB L i % 2 ^ (8 - L.length % 8) = 0 := by
  obtain ⟨r, hr⟩ : ∃ r, L.length % 8 = r := ⟨_, rfl⟩
  have hl : L.length = 8 * i + r := by omega
  rw [hr]
  have z : ∀ j, r ≤ j → L.getD (8 * i + j) 0 = 0 := fun j hj => getD_end (by omega)
  have h8 : r < 8 := by omega
  unfold byteB
  rcases (show r = 0 ∨ r = 1 ∨ r = 2 ∨ r = 3 ∨ r = 4 ∨ r = 5 ∨ r = 6 ∨ r = 7 by omega) with rfl | rfl | rfl | rfl | rfl | rfl | rfl | rfl
  · have := z 0 (by omega); have := z 1 (by omega); have := z 2 (by omega); have := z 3 (by omega); have := z 4 (by omega); have := z 5 (by omega); have := z 6 (by omega); have := z 7 (by omega)
    simp only [Nat.add_zero] at *; omega
  · have := z 1 (by omega); have := z 2 (by omega); have := z 3 (by omega); have := z 4 (by omega); have := z 5 (by omega); have := z 6 (by omega); have := z 7 (by omega); omega
  · have := z 2 (by omega); have := z 3 (by omega); have := z 4 (by omega); have := z 5 (by omega); have := z 6 (by omega); have := z 7 (by omega); omega
  · have := z 3 (by omega); have := z 4 (by omega); have := z 5 (by omega); have := z 6 (by omega); have := z 7 (by omega); omega
  · have := z 4 (by omega); have := z 5 (by omega); have := z 6 (by omega); have := z 7 (by omega); omega
  · have := z 5 (by omega); have := z 6 (by omega); have := z 7 (by omega); omega
  · have := z 6 (by omega); have := z 7 (by omega); omega
  · have := z 7 (by omega); omega
theorem packB_snoc0 {L : List Int} (b : Int) (h : L.length % 8 = 0) : packB (L ++ [b]) = packB L ++ [128 * b] := by
  apply List.ext_getElem?
  intro i
  have hl := packB_len L
  rcases Nat.lt_trichotomy i (L.length / 8) with hi | hi | hi
  · rw [packB_at _ (by simp; omega), List.getElem?_append_left (by omega), packB_at _ (by omega), byteB_old (by omega)]
  · rw [packB_at _ (by simp; omega), List.getElem?_append_right (by omega), hl, show i - (L.length + 7) / 8 = 0 by omega, byteB_new hi, h]
    have z : ∀ j, L.getD (8 * i + j) 0 = 0 := fun j => getD_end (by omega)
    have z0 := z 0
    rw [Nat.add_zero] at z0
    unfold byteB
    rw [z0, z, z, z, z, z, z, z]
    simp; omega
  · rw [List.getElem?_eq_none (by rw [packB_len]; simp; omega), List.getElem?_eq_none (by rw [List.length_append, hl]; simp; omega)]
theorem packB_snoc1 {L : List Int} (b : Int) (h : L.length % 8 ≠ 0) : packB (L ++ [b]) = List.set (packB L) (L.length / 8) ((packB L).getD (L.length / 8) 0 + b * 2 ^ (7 - L.length % 8)) := by
  apply List.ext_getElem?
  intro i
  have hl := packB_len L
  rcases Nat.lt_trichotomy i (L.length / 8) with hi | hi | hi
  · rw [packB_at _ (by simp; omega), List.getElem?_set_ne (by omega), packB_at _ (by omega), byteB_old (by omega)]
  · rw [packB_at _ (by simp; omega), ← hi, List.getElem?_set_self (by omega), packB_getD _ (by omega), byteB_new hi]
  · rw [List.getElem?_eq_none (by rw [packB_len]; simp; omega), List.getElem?_eq_none (by rw [List.length_set, hl]; omega)]

theorem unB_len (xs : List Int) : (unB xs).length = 8 * xs.length := by simp [unB]
theorem unB_at (xs : List Int) {p : Nat} (h : p < 8 * xs.length) : (unB xs).getD p 0 = xs.getD (p / 8) 0 / 2 ^ (7 - p % 8) % 2 := by
  unfold unB; rw [List.getD_eq_getElem?_getD, List.getElem?_map, List.getElem?_range h]; rfl
theorem unB_bit (xs : List Int) : Bit (unB xs) := fun x hx => by
  obtain ⟨i, -, rfl⟩ := List.mem_map.1 hx
  omega
theorem bit_01 {L : List Int} (h : Bit L) (p : Nat) : 0 ≤ L.getD p 0 ∧ L.getD p 0 ≤ 1 := by rcases bit_at h p with h | h <;> omega
theorem byteB_bit {L : List Int} (h : Bit L) (i : Nat) {r : Nat} (hr : r < 8) : byteB L i / 2 ^ (7 - r) % 2 = L.getD (8 * i + r) 0 := by
  have e : ∀ a b c d e f g k : Int, (0 ≤ a ∧ a ≤ 1) → (0 ≤ b ∧ b ≤ 1) → (0 ≤ c ∧ c ≤ 1) → (0 ≤ d ∧ d ≤ 1) → (0 ≤ e ∧ e ≤ 1) → (0 ≤ f ∧ f ≤ 1) → (0 ≤ g ∧ g ≤ 1) → (0 ≤ k ∧ k ≤ 1) →
      (128 * a + 64 * b + 32 * c + 16 * d + 8 * e + 4 * f + 2 * g + k) / 128 % 2 = a ∧ (128 * a + 64 * b + 32 * c + 16 * d + 8 * e + 4 * f + 2 * g + k) / 64 % 2 = b ∧
      (128 * a + 64 * b + 32 * c + 16 * d + 8 * e + 4 * f + 2 * g + k) / 32 % 2 = c ∧ (128 * a + 64 * b + 32 * c + 16 * d + 8 * e + 4 * f + 2 * g + k) / 16 % 2 = d ∧
      (128 * a + 64 * b + 32 * c + 16 * d + 8 * e + 4 * f + 2 * g + k) / 8 % 2 = e ∧ (128 * a + 64 * b + 32 * c + 16 * d + 8 * e + 4 * f + 2 * g + k) / 4 % 2 = f ∧
      (128 * a + 64 * b + 32 * c + 16 * d + 8 * e + 4 * f + 2 * g + k) / 2 % 2 = g ∧ (128 * a + 64 * b + 32 * c + 16 * d + 8 * e + 4 * f + 2 * g + k) / 1 % 2 = k := by
    intro a b c d e f g k ha hb hc hd he hf hg hk
    refine ⟨by omega, by omega, by omega, by omega, by omega, by omega, by omega, by omega⟩
  have h := e _ _ _ _ _ _ _ _ (bit_01 h (8 * i)) (bit_01 h (8 * i + 1)) (bit_01 h (8 * i + 2)) (bit_01 h (8 * i + 3)) (bit_01 h (8 * i + 4)) (bit_01 h (8 * i + 5)) (bit_01 h (8 * i + 6)) (bit_01 h (8 * i + 7))
  unfold byteB
  rcases (show r = 0 ∨ r = 1 ∨ r = 2 ∨ r = 3 ∨ r = 4 ∨ r = 5 ∨ r = 6 ∨ r = 7 by omega) with rfl | rfl | rfl | rfl | rfl | rfl | rfl | rfl
  · exact h.1
  · exact h.2.1
  · exact h.2.2.1
  · exact h.2.2.2.1
  · exact h.2.2.2.2.1
  · exact h.2.2.2.2.2.1
  · exact h.2.2.2.2.2.2.1
  · exact h.2.2.2.2.2.2.2
theorem unB_pack_at {L : List Int} (h : Bit L) (p : Nat) : (unB (packB L)).getD p 0 = L.getD p 0 := by
  by_cases hp : p < 8 * ((L.length + 7) / 8)
  · rw [unB_at _ (by rw [packB_len]; exact hp), packB_getD _ (by omega), byteB_bit h _ (Nat.mod_lt _ (by omega)), show 8 * (p / 8) + p % 8 = p by omega]
  · rw [getD_end (by rw [unB_len, packB_len]; omega), getD_end (by omega)]
theorem ext_getD {L M : List Int} (hl : L.length = M.length) (h : ∀ p, p < L.length → L.getD p 0 = M.getD p 0) : L = M := by
  apply List.ext_getElem?
  intro p
  by_cases hp : p < L.length
  · have := h p hp
    rw [List.getD_eq_getElem?_getD, List.getD_eq_getElem?_getD, List.getElem?_eq_getElem hp, List.getElem?_eq_getElem (by omega)] at this
    rw [List.getElem?_eq_getElem hp, List.getElem?_eq_getElem (by omega)]
    exact congrArg some this
  · rw [List.getElem?_eq_none (by omega), List.getElem?_eq_none (by omega)]
theorem getD_take' {L : List Int} {n p : Nat} (h : p < n) : (L.take n).getD p 0 = L.getD p 0 := by
  rw [List.getD_eq_getElem?_getD, List.getElem?_take, if_pos h, ← List.getD_eq_getElem?_getD]
theorem getD_drop' (L : List Int) (n p : Nat) : (L.drop n).getD p 0 = L.getD (n + p) 0 := by
  rw [List.getD_eq_getElem?_getD, List.getElem?_drop, ← List.getD_eq_getElem?_getD]
theorem unB_pack {L : List Int} (h : Bit L) : (unB (packB L)).take L.length = L := by
  refine ext_getD (by rw [List.length_take, unB_len, packB_len]; omega) fun p hp => ?_
  rw [List.length_take, unB_len, packB_len] at hp
  rw [getD_take' (by omega), unB_pack_at h]
theorem unB_full {L : List Int} (h : Bit L) : unB (packB L) = L ++ List.replicate (8 * ((L.length + 7) / 8) - L.length) 0 := by
  refine ext_getD (by rw [unB_len, packB_len, List.length_append, List.length_replicate]; omega) fun p hp => ?_
  rw [unB_pack_at h]
  by_cases h' : p < L.length
  · rw [List.getD_eq_getElem?_getD (l := L ++ _), List.getElem?_append_left h', ← List.getD_eq_getElem?_getD]
  · rw [getD_end (L := L) (by omega), List.getD_eq_getElem?_getD, List.getElem?_append_right (by omega), List.getElem?_replicate]
    split <;> rfl
theorem pack_unB {xs : List Int} (h : Byt xs) : packB (unB xs) = xs := by
  refine ext_getD (by rw [packB_len, unB_len]; omega) fun i hi => ?_
  rw [packB_len, unB_len] at hi
  have hi : i < xs.length := by omega
  rw [packB_getD _ (by rw [unB_len]; omega)]
  have f := byt_at h i
  have e : ∀ r, r < 8 → (unB xs).getD (8 * i + r) 0 = xs.getD i 0 / 2 ^ (7 - r) % 2 := fun r hr => by
    rw [unB_at _ (by omega), show (8 * i + r) / 8 = i by omega, show (8 * i + r) % 8 = r by omega]
  have e0 := e 0 (by omega)
  rw [Nat.add_zero] at e0
  unfold byteB
  rw [e0, e 1 (by omega), e 2 (by omega), e 3 (by omega), e 4 (by omega), e 5 (by omega), e 6 (by omega), e 7 (by omega)]
  simp only [Nat.sub_zero, Nat.reduceSub, Int.reducePow]
  omega
theorem packB_zero (L : List Int) (m : Nat) : packB (L ++ List.replicate m 0) = packB L ++ List.replicate ((L.length + m + 7) / 8 - (L.length + 7) / 8) 0 := by
  have g : ∀ p, (L ++ List.replicate m (0 : Int)).getD p 0 = L.getD p 0 := fun p => by
    by_cases h : p < L.length
    · rw [List.getD_eq_getElem?_getD (l := L ++ _), List.getElem?_append_left h, ← List.getD_eq_getElem?_getD]
    · rw [getD_end (L := L) (by omega), List.getD_eq_getElem?_getD, List.getElem?_append_right (by omega), List.getElem?_replicate]
      split <;> rfl
  have gb : ∀ i, byteB (L ++ List.replicate m (0 : Int)) i = byteB L i := fun i => by unfold byteB; simp only [g]
  refine ext_getD (by rw [packB_len, List.length_append, List.length_append, packB_len, List.length_replicate, List.length_replicate]; omega) fun i hi => ?_
  rw [packB_len, List.length_append, List.length_replicate] at hi
  rw [packB_getD _ (by rw [List.length_append, List.length_replicate]; exact hi), gb]
  by_cases h : i < (L.length + 7) / 8
  · rw [List.getD_eq_getElem?_getD, List.getElem?_append_left (by rw [packB_len]; exact h), packB_at _ h]; rfl
  · rw [List.getD_eq_getElem?_getD, List.getElem?_append_right (by rw [packB_len]; omega), List.getElem?_replicate, packB_len, if_pos (by omega)]
    have z : ∀ j, L.getD (8 * i + j) 0 = 0 := fun j => getD_end (by omega)
    have z0 := z 0
    rw [Nat.add_zero] at z0
    unfold byteB
    rw [z0, z, z, z, z, z, z, z]; rfl

theorem bitsN_len (x : Int) (n : Nat) : (bitsN x n).length = n := by simp [bitsN]
theorem bitsN_at (x : Int) {n i : Nat} (h : i < n) : (bitsN x n)[i]? = some (x / 2 ^ (n - 1 - i) % 2) := by
  unfold bitsN; rw [List.getElem?_map, List.getElem?_range h]; rfl
theorem bitsN_bit (x : Int) (n : Nat) : Bit (bitsN x n) := fun y hy => by
  obtain ⟨i, -, rfl⟩ := List.mem_map.1 hy
  omega
theorem div_two_pow (x : Int) (k : Nat) : x / 2 / 2 ^ k = x / 2 ^ (k + 1) := by
  rw [Int.ediv_ediv_of_nonneg (by decide), Int.pow_succ, Int.mul_comm]
theorem bitsN_succ (x : Int) (n : Nat) : bitsN x (n + 1) = bitsN (x / 2) n ++ [x % 2] := by
  refine ext_getD (by rw [bitsN_len, List.length_append, bitsN_len]; rfl) fun i hi => ?_
  rw [bitsN_len] at hi
  rw [List.getD_eq_getElem?_getD, bitsN_at x hi, getD_snocI, bitsN_len]
  by_cases h : i = n
  · subst h
    rw [if_pos rfl, getD_end (by rw [bitsN_len]; omega)]
    simp
  · rw [if_neg h, List.getD_eq_getElem?_getD, bitsN_at _ (by omega), Option.getD_some, Option.getD_some, div_two_pow, show n + 1 - 1 - i = n - 1 - i + 1 by omega]; omega
theorem numB_snoc (L : List Int) (b : Int) : numB (L ++ [b]) = 2 * numB L + b := by unfold numB; rw [List.foldl_append]; rfl
theorem numB_bitsN : ∀ (n : Nat) (x : Int), numB (bitsN x n) = x % 2 ^ n
  | 0, x => by show (0 : Int) = _; rw [Int.pow_zero, Int.emod_one]
  | n + 1, x => by
    rw [bitsN_succ, numB_snoc, numB_bitsN n]
    have h : (0 : Int) < 2 ^ n := Int.pow_pos (by decide)
    rw [Int.pow_succ, Int.mul_comm ((2 : Int) ^ n) 2]
    generalize (2 : Int) ^ n = p at *
    have a := Int.emod_add_mul_ediv x (2 * p)
    have b := Int.emod_add_mul_ediv (x / 2) p
    have c : x / (2 * p) = x / 2 / p := by rw [Int.ediv_ediv_of_nonneg (by decide)]
    rw [c] at a
    have d : 2 * p * (x / 2 / p) = 2 * (p * (x / 2 / p)) := by rw [Int.mul_assoc]
    rw [d] at a
    omega
theorem numB_bits {x : Int} {n : Nat} (h : 0 ≤ x) (h' : x < 2 ^ n) : numB (bitsN x n) = x := by
  rw [numB_bitsN, Int.emod_eq_of_lt h h']
theorem numB_fit : ∀ {n : Nat} {L : List Int}, L.length = n → Bit L → 0 ≤ numB L ∧ numB L < 2 ^ n := by
  intro n
  induction n with
  | zero => intro L hl _; rw [List.eq_nil_of_length_eq_zero hl]; exact ⟨Int.le_refl _, by show (0 : Int) < 1; decide⟩
  | succ n ih =>
    intro L hl hb
    have hne : L ≠ [] := fun e => by rw [e] at hl; cases hl
    rw [← List.dropLast_concat_getLast hne, numB_snoc, Int.pow_succ]
    have := ih (L := L.dropLast) (by rw [List.length_dropLast]; omega) (fun x hx => hb x (List.dropLast_subset L hx))
    have := hb _ (List.getLast_mem hne)
    omega
theorem bits_numB : ∀ {n : Nat} {L : List Int}, L.length = n → Bit L → bitsN (numB L) n = L := by
  intro n
  induction n with
  | zero => intro L hl _; rw [List.eq_nil_of_length_eq_zero hl]; rfl
  | succ n ih =>
    intro L hl hb
    have hne : L ≠ [] := fun e => by rw [e] at hl; cases hl
    have hd : Bit L.dropLast := fun x hx => hb x (List.dropLast_subset L hx)
    have hld : L.dropLast.length = n := by rw [List.length_dropLast]; omega
    have h1 := hb _ (List.getLast_mem hne)
    have h2 := numB_fit hld hd
    have e : numB L = 2 * numB L.dropLast + L.getLast hne := by
      conv => lhs; rw [← List.dropLast_concat_getLast hne, numB_snoc]
    rw [bitsN_succ, e, show (2 * numB L.dropLast + L.getLast hne) / 2 = numB L.dropLast by omega, show (2 * numB L.dropLast + L.getLast hne) % 2 = L.getLast hne by omega, ih hld hd, List.dropLast_concat_getLast hne]
theorem bit_app {L M : List Int} (h : Bit L) (k : Bit M) : Bit (L ++ M) := fun x hx => (List.mem_append.1 hx).elim (h x) (k x)
theorem bit_take {L : List Int} (h : Bit L) (n : Nat) : Bit (L.take n) := fun x hx => h x (List.mem_of_mem_take hx)
theorem bit_drop {L : List Int} (h : Bit L) (n : Nat) : Bit (L.drop n) := fun x hx => h x (List.mem_of_mem_drop hx)
theorem bit_zero (n : Nat) : Bit (List.replicate n 0) := fun _x hx => Or.inl (List.mem_replicate.1 hx).2
end Go.SL.A

/- A sum of 16 bits: unlike bytes have unlike sums, where one byte alone is unlike. -/
namespace Go.SL.A
open Go Go.SL Go.SL.S
set_option maxRecDepth 100000

theorem ixor_nat (a b : Nat) (ha : a < 2 ^ 63) (hb : b < 2 ^ 63) : ixor .i64 (a : Int) (b : Int) = ((a ^^^ b : Nat) : Int) := by
  have hx : a ^^^ b < 2 ^ 63 := Nat.xor_lt_two_pow ha hb
  unfold ixor
  have h1 : (BitVec.ofInt IntKind.i64.bits (a : Int) ^^^ BitVec.ofInt IntKind.i64.bits (b : Int)).toNat = a ^^^ b := by
    rw [BitVec.toNat_xor, BitVec.ofInt_natCast, BitVec.ofInt_natCast, BitVec.toNat_ofNat, BitVec.toNat_ofNat]
    have e : (2 : Nat) ^ IntKind.i64.bits = 18446744073709551616 := by decide
    rw [e, Nat.mod_eq_of_lt (by omega), Nat.mod_eq_of_lt (by omega)]
  rw [h1]
  exact w64 (by omega) (by omega)
def bitN (r b : Nat) : Nat := (2 * r % 65536) ^^^ (if r / 32768 = b then 0 else 4129)
theorem bitR_nat {r b : Nat} : bitR (r : Int) (b : Int) = ((bitN r b : Nat) : Int) := by
  unfold bitR bitN
  have e1 : (2 : Int) * (r : Int) % 65536 = ((2 * r % 65536 : Nat) : Int) := by omega
  have e2 : ((r : Int) / 32768 = (b : Int)) ↔ r / 32768 = b := by omega
  by_cases h : r / 32768 = b
  · rw [if_pos (e2.2 h), if_pos h, Nat.xor_zero, e1]
  · rw [if_neg (fun h' => h (e2.1 h')), if_neg h, e1]
    exact ixor_nat (2 * r % 65536) 4129 (by have := Nat.mod_lt (2 * r) (show 65536 > 0 by omega); omega) (by decide)
theorem bitN_lt (r b : Nat) : bitN r b < 65536 := by
  unfold bitN
  refine Nat.xor_lt_two_pow (n := 16) (Nat.mod_lt _ (by omega)) ?_
  split <;> omega
theorem bitR_fit {r b : Int} (hr : 0 ≤ r ∧ r < 65536) (hb : b = 0 ∨ b = 1) : 0 ≤ bitR r b ∧ bitR r b < 65536 := by
  obtain ⟨R, rfl⟩ : ∃ R : Nat, r = R := ⟨r.toNat, by omega⟩
  obtain ⟨B, rfl⟩ : ∃ B : Nat, b = B := ⟨b.toNat, by omega⟩
  rw [bitR_nat]
  have := bitN_lt R B
  omega
/-- What a register's step tells of what was before. -/
theorem bitN_back {r s b c j : Nat} (hj : j ≤ 15) (_hb : b < 2) (_hc : c < 2) (_hr : r < 65536) (_hs : s < 65536) (h : bitN r b % 2 ^ (j + 1) = bitN s c % 2 ^ (j + 1)) : ((r / 32768 = b) ↔ (s / 32768 = c)) ∧ r % 2 ^ j = s % 2 ^ j := by
  have hodd : ∀ r b, bitN r b % 2 = if r / 32768 = b then 0 else 1 := fun r b => by
    unfold bitN
    have e := Nat.xor_mod_two_pow (a := 2 * r % 65536) (b := if r / 32768 = b then 0 else 4129) (n := 1)
    rw [Nat.pow_one] at e
    rw [e, show 2 * r % 65536 % 2 = 0 by omega, Nat.zero_xor]
    split <;> rfl
  have hm : bitN r b % 2 = bitN s c % 2 := by
    have e : ∀ x, x % 2 ^ (j + 1) % 2 = x % 2 := fun x => Nat.mod_mod_of_dvd x ⟨2 ^ j, by rw [Nat.pow_succ, Nat.mul_comm]⟩
    have := congrArg (· % 2) h
    simp only [e] at this
    exact this
  rw [hodd, hodd] at hm
  have ht : (r / 32768 = b) ↔ (s / 32768 = c) := by
    constructor
    · intro h'; rw [if_pos h'] at hm; by_cases h2 : s / 32768 = c
      · exact h2
      · rw [if_neg h2] at hm; omega
    · intro h'; rw [if_pos h'] at hm; by_cases h2 : r / 32768 = b
      · exact h2
      · rw [if_neg h2] at hm; omega
  refine ⟨ht, ?_⟩
  unfold bitN at h
  have hq : (if s / 32768 = c then 0 else 4129) = (if r / 32768 = b then 0 else 4129) := by
    by_cases h' : r / 32768 = b
    · rw [if_pos h', if_pos (ht.1 h')]
    · rw [if_neg h', if_neg (fun h2 => h' (ht.2 h2))]
  rw [hq, Nat.xor_mod_two_pow, Nat.xor_mod_two_pow] at h
  have h : 2 * r % 65536 % 2 ^ (j + 1) = 2 * s % 65536 % 2 ^ (j + 1) := by
    generalize (if r / 32768 = b then 0 else 4129) % 2 ^ (j + 1) = q at h
    have := congrArg (· ^^^ q) h
    simpa [Nat.xor_assoc, Nat.xor_self, Nat.xor_zero] using this
  have e : ∀ x, 2 * x % 65536 % 2 ^ (j + 1) = 2 * (x % 2 ^ j) := fun x => by
    rw [Nat.mod_mod_of_dvd _ (show 2 ^ (j + 1) ∣ 65536 from ⟨2 ^ (16 - (j + 1)), by rw [← Nat.pow_add, show j + 1 + (16 - (j + 1)) = 16 by omega]⟩), Nat.pow_succ, Nat.mul_comm (2 ^ j) 2, Nat.mul_mod_mul_left]
  rw [e, e] at h
  omega
def foldN (r : Nat) (bs : List Nat) : Nat := bs.foldl bitN r
def topsN (r : Nat) : List Nat → List Bool
  | [] => []
  | b :: bs => decide (r / 32768 = b) :: topsN (bitN r b) bs
theorem fold_back : ∀ {bs cs : List Nat} {r s j : Nat}, bs.length = cs.length → j + bs.length ≤ 16 → (∀ b ∈ bs, b < 2) → (∀ c ∈ cs, c < 2) → r < 65536 → s < 65536 → foldN r bs % 2 ^ (j + bs.length) = foldN s cs % 2 ^ (j + bs.length) → r % 2 ^ j = s % 2 ^ j ∧ topsN r bs = topsN s cs
  | [], [], r, s, j, _, _, _, _, _, _, h => ⟨h, rfl⟩
  | b :: bs, c :: cs, r, s, j, hl, hj, hb, hc, hr, hs, h => by
    simp only [List.length_cons] at hl hj h
    have ih := fold_back (bs := bs) (cs := cs) (r := bitN r b) (s := bitN s c) (j := j + 1) (by omega) (by omega) (fun x hx => hb x (List.mem_cons_of_mem _ hx)) (fun x hx => hc x (List.mem_cons_of_mem _ hx)) (bitN_lt _ _) (bitN_lt _ _) (by rw [show j + 1 + bs.length = j + (bs.length + 1) by omega]; exact h)
    have k := bitN_back (by omega) (hb b List.mem_cons_self) (hc c List.mem_cons_self) hr hs ih.1
    refine ⟨k.2, ?_⟩
    rw [topsN, topsN, ih.2]
    congr 1
    exact decide_eq_decide.2 k.1
theorem tops_inj : ∀ {bs cs : List Nat} {r : Nat}, (∀ b ∈ bs, b < 2) → (∀ c ∈ cs, c < 2) → r < 65536 → topsN r bs = topsN r cs → bs = cs
  | [], [], _, _, _, _, _ => rfl
  | [], _ :: _, _, _, _, _, h => by cases h
  | _ :: _, [], _, _, _, _, h => by cases h
  | b :: bs, c :: cs, r, hb, hc, hr, h => by
    rw [topsN, topsN, List.cons.injEq] at h
    have h1 := decide_eq_decide.1 h.1
    have b2 := hb b List.mem_cons_self
    have c2 := hc c List.mem_cons_self
    have e : b = c := by omega
    subst e
    rw [tops_inj (fun x hx => hb x (List.mem_cons_of_mem _ hx)) (fun x hx => hc x (List.mem_cons_of_mem _ hx)) (bitN_lt r b) h.2]
def bitsNat (c : Int) : List Nat := (bitsN c 8).map Int.toNat
theorem bitsNat_two (c : Int) : ∀ b ∈ bitsNat c, b < 2 := fun b hb => by
  obtain ⟨x, hx, rfl⟩ := List.mem_map.1 hb
  rcases bitsN_bit c 8 x hx with h | h <;> rw [h] <;> decide
theorem bitsNat_len (c : Int) : (bitsNat c).length = 8 := by unfold bitsNat; rw [List.length_map, bitsN_len]
theorem fold_nat : ∀ {L : List Int}, Bit L → ∀ r : Nat, L.foldl bitR (r : Int) = ((foldN r (L.map Int.toNat) : Nat) : Int)
  | [], _, r => rfl
  | b :: L, h, r => by
    have hb := h b List.mem_cons_self
    have e : b = ((b.toNat : Nat) : Int) := by omega
    rw [List.foldl_cons, List.map_cons]
    conv => lhs; rw [e, bitR_nat]
    rw [fold_nat (fun x hx => h x (List.mem_cons_of_mem _ hx))]; rfl
theorem byteR_nat (r : Nat) (c : Int) : byteR (r : Int) c = ((foldN r (bitsNat c) : Nat) : Int) := fold_nat (bitsN_bit c 8) r
theorem foldN_lt : ∀ {bs : List Nat} {r : Nat}, r < 65536 → foldN r bs < 65536
  | [], _, h => h
  | b :: bs, r, _ => by show foldN (bitN r b) bs < _; exact foldN_lt (bitN_lt r b)
theorem byteR_fit {r : Int} (hr : 0 ≤ r ∧ r < 65536) (c : Int) : 0 ≤ byteR r c ∧ byteR r c < 65536 := by
  obtain ⟨R, rfl⟩ : ∃ R : Nat, r = R := ⟨r.toNat, by omega⟩
  rw [byteR_nat]
  have := foldN_lt (bs := bitsNat c) (r := R) (by omega)
  omega
theorem crcS_fit {xs : List Int} : ∀ {r : Int}, (0 ≤ r ∧ r < 65536) → 0 ≤ crcS r xs ∧ crcS r xs < 65536 := by
  induction xs with
  | nil => intro r h; exact h
  | cons c xs ih => intro r h; exact ih (byteR_fit h c)
theorem bits8_inj {c d : Int} (hc : 0 ≤ c ∧ c ≤ 255) (hd : 0 ≤ d ∧ d ≤ 255) (h : bitsNat c = bitsNat d) : c = d := by
  have hb : bitsN c 8 = bitsN d 8 := by
    have back : ∀ c, bitsN c 8 = (bitsNat c).map fun n => ((n : Nat) : Int) := fun c => by
      unfold bitsNat
      rw [List.map_map]
      symm
      refine (List.map_congr_left (g := id) fun x hx => ?_).trans (List.map_id _)
      rcases bitsN_bit c 8 x hx with h | h <;> rw [h] <;> rfl
    rw [back c, back d, h]
  have := congrArg numB hb
  rw [numB_bits hc.1 (show c < 2 ^ 8 by have : (2 : Int) ^ 8 = 256 := by decide
                                        omega), numB_bits hd.1 (show d < 2 ^ 8 by have : (2 : Int) ^ 8 = 256 := by decide
                                                                                  omega)] at this
  exact this
/-- Unlike bytes give unlike registers. -/
theorem byteR_inj {r c d : Int} (hr : 0 ≤ r ∧ r < 65536) (hc : 0 ≤ c ∧ c ≤ 255) (hd : 0 ≤ d ∧ d ≤ 255) (h : byteR r c = byteR r d) : c = d := by
  obtain ⟨R, rfl⟩ : ∃ R : Nat, r = R := ⟨r.toNat, by omega⟩
  rw [byteR_nat, byteR_nat] at h
  have h : foldN R (bitsNat c) = foldN R (bitsNat d) := by omega
  have k := fold_back (bs := bitsNat c) (cs := bitsNat d) (r := R) (s := R) (j := 8) (by rw [bitsNat_len, bitsNat_len]) (by rw [bitsNat_len]; omega) (bitsNat_two c) (bitsNat_two d) (by omega) (by omega) (by rw [h])
  exact bits8_inj hc hd (tops_inj (bitsNat_two c) (bitsNat_two d) (show R < 65536 by omega) k.2)
theorem step_inj {r s b : Nat} (hb : b < 2) (hr : r < 65536) (hs : s < 65536) (h : bitN r b = bitN s b) : r = s := by
  have k := bitN_back (j := 15) (by omega) hb hb hr hs (by rw [h])
  have e : (2 : Nat) ^ 15 = 32768 := by decide
  rw [e] at k
  obtain ⟨k1, k2⟩ := k
  have : r / 32768 = s / 32768 := by
    by_cases h' : r / 32768 = b
    · rw [h', k1.1 h']
    · have : ¬ s / 32768 = b := fun h2 => h' (k1.2 h2)
      omega
  omega
theorem foldN_inj : ∀ {bs : List Nat} {r s : Nat}, (∀ b ∈ bs, b < 2) → r < 65536 → s < 65536 → foldN r bs = foldN s bs → r = s
  | [], _, _, _, _, _, h => h
  | b :: bs, _r, _s, hb, hr, hs, h => step_inj (hb b List.mem_cons_self) hr hs (foldN_inj (bs := bs) (fun x hx => hb x (List.mem_cons_of_mem _ hx)) (bitN_lt _ _) (bitN_lt _ _) h)
/-- Unlike registers stay unlike. -/
theorem crcS_inj : ∀ {xs : List Int} {r s : Int}, (0 ≤ r ∧ r < 65536) → (0 ≤ s ∧ s < 65536) → crcS r xs = crcS s xs → r = s
  | [], _, _, _, _, h => h
  | c :: xs, r, s, hr, hs, h => by
    have k := crcS_inj (xs := xs) (byteR_fit hr c) (byteR_fit hs c) h
    obtain ⟨R, rfl⟩ : ∃ R : Nat, r = R := ⟨r.toNat, by omega⟩
    obtain ⟨Q, rfl⟩ : ∃ Q : Nat, s = Q := ⟨s.toNat, by omega⟩
    rw [byteR_nat, byteR_nat] at k
    have := foldN_inj (bs := bitsNat c) (bitsNat_two c) (show R < 65536 by omega) (show Q < 65536 by omega) (by omega)
    omega
theorem crcS_app (r : Int) (xs ys : List Int) : crcS r (xs ++ ys) = crcS (crcS r xs) ys := by unfold crcS; rw [List.foldl_append]
/-- One byte that is another one is told by the sum. -/
theorem crcS_set {xs : List Int} {i : Nat} {v : Int} (hi : i < xs.length) (hx : Byt xs) (hv : 0 ≤ v ∧ v ≤ 255) (h : crcS 65535 (List.set xs i v) = crcS 65535 xs) : v = xs.getD i 0 := by
  have e0 : xs = xs.take i ++ xs.getD i 0 :: xs.drop (i + 1) := by
    rw [List.getD_eq_getElem?_getD, List.getElem?_eq_getElem hi, Option.getD_some, List.getElem_cons_drop, List.take_append_drop]
  have e1 : List.set xs i v = xs.take i ++ v :: xs.drop (i + 1) := List.set_eq_take_append_cons_drop.trans (if_pos hi)
  rw [e1] at h
  conv at h => rhs; rw [e0]
  rw [crcS_app, crcS_app] at h
  have hf := crcS_fit (xs := xs.take i) (r := 65535) (by omega)
  exact byteR_inj hf hv (byt_at hx i) (crcS_inj (byteR_fit hf _) (byteR_fit hf _) h)
end Go.SL.A

/- Packets: plain functions. -/
namespace Go.SL.S
open Go Go.SL
abbrev SHQ : Type := List Int × List (List Int)
def packR (s : SHQ) (size : Int) : Bool := if giveB size = 0 ∨ rightF s.1 = false then false else (List.range 8).all fun b => decide (pulsesF (s.2.getD b (List.replicate 4 0)) = (giveV s.1 (giveB size)).getD b 0)
/-- How many bits a band's number has. -/
def bitsK (k : Int) : Nat := (bitsF k).toNat
def sideB (S : List Int) : List Int := S.flatMap fun s => bitsN s 4
def rowB (y : List Int) : List Int := bitsN (indexF y).1 (bitsK (pulsesF y))
def rowsB (Y : List (List Int)) : List Int := Y.flatMap rowB
/-- A packet's bits. -/
def layB (f : Int) (s : SHQ) : List Int := bitsN f 16 ++ sideB s.1 ++ rowsB s.2
def bodyS (f : Int) (s : SHQ) (size : Int) : List Int := packB (layB f s) ++ List.replicate ((size - 2).toNat - (packB (layB f s)).length) 0
def layS (f : Int) (s : SHQ) (size : Int) : List Int := sealS (bodyS f s size)
def layE (f : Int) (s : SHQ) (size : Int) : Int := if giveB size = 0 then 1 else if f < 0 ∨ 65535 < f then 7 else if packR s size then 0 else 3
def layV (f : Int) (s : SHQ) (size : Int) : ByteArray := if layE f s size = 0 then bytesOf (layS f s size) else ByteArray.empty
/-- A number out of bits. -/
def getN (U : List Int) (i n : Nat) : Int := numB ((U.drop i).take n)
def sideR (U : List Int) : List Int := (List.range 8).map fun b => getN U (16 + 4 * b) 4
def offK (k : List Int) : Nat → Nat
  | 0 => 48
  | b + 1 => offK k b + bitsK (k.getD b 0)
def rowI (U k : List Int) (b : Nat) : Int := getN U (offK k b) (bitsK (k.getD b 0))
def okTo (U k : List Int) (b : Nat) : Bool := (List.range b).all fun j => decide (rowI U k j < countF 4 (k.getD j 0))
def rowsR (U k : List Int) (b : Nat) : List (List Int) := (List.range b).map fun j => vecF 4 (k.getD j 0) (rowI U k j)
def zeroP : Int × SHQ := (0, List.replicate 8 0, List.replicate 8 (List.replicate 4 0))
/-- What is read of a packet's bits. -/
def readU (U : List Int) (size : Int) : (Int × SHQ) × Int :=
  let k := giveV (sideR U) (giveB size)
  if okTo U k 8 && (U.drop (offK k 8)).all fun b => decide (b ≠ 1) then ((getN U 0 16, sideR U, rowsR U k 8), 0) else (zeroP, 3)
def readS (xs : List Int) : (Int × SHQ) × Int :=
  if giveB xs.length = 0 then (zeroP, 1)
  else if sealS (xs.take (xs.length - 2)) = xs then readU (unB (xs.take (xs.length - 2))) xs.length
  else (zeroP, 4)
end Go.SL.S
