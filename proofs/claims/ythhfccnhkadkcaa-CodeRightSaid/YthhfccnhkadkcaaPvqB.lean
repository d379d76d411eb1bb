/- The code of PvqCounts as a plain condition, which holds; and what the vectors' order is. -/
import Derived.Test.YthhfccnhkadkcaaPvq

/- Functions and what they are held to do: bound to their code. -/
namespace Go.SL.A
open Go Go.SL Go.SL.S
set_option maxRecDepth 100000
noncomputable def C7 : Ctx := ⟨Go.Proofs.Try.prog, D, G46, (fun _ _ => none), fun _ => []⟩
def ann7 (n k : Int) : Nat → St → Option Ann := fun _ _ => none
def out7 (n k : Int) : COut := ⟨[], .v .bool true, [], []⟩
def sp7 : Spec := fun args ins => match args, ins with
  | [⟨.int .u8, n⟩, ⟨.int .u8, k⟩], [] => some (out7 n k)
  | _, _ => none
def G7 := addG G46 7 sp7
def P7 (n k : Int) : Prop :=
  ((8 : Int) ≠ (0 : Int) ∧ (12 : Int) ≠ (0 : Int)) ∧ bif decide (countF (IntKind.wrap IntKind.i64 (Int.tmod (IntKind.wrap IntKind.i64 n) (8 : Int) + (1 : Int))) (IntKind.wrap IntKind.i64 (Int.tmod (IntKind.wrap IntKind.i64
  k) (12 : Int) + (1 : Int))) = IntKind.wrap IntKind.i64 (IntKind.wrap IntKind.i64 (countF (Int.tmod (IntKind.wrap IntKind.i64 n) (8 : Int)) (IntKind.wrap IntKind.i64 (Int.tmod (IntKind.wrap IntKind.i64 k) (12 : Int) + (1 :
  Int))) + countF (Int.tmod (IntKind.wrap IntKind.i64 n) (8 : Int)) (Int.tmod (IntKind.wrap IntKind.i64 k) (12 : Int))) + countF (IntKind.wrap IntKind.i64 (Int.tmod (IntKind.wrap IntKind.i64 n) (8 : Int) + (1 : Int)))
  (Int.tmod (IntKind.wrap IntKind.i64 k) (12 : Int)))) then bif decide (countF (Int.tmod (IntKind.wrap IntKind.i64 n) (8 : Int)) (0 : Int) = (1 : Int)) then bif decide (bitsF (Int.tmod (IntKind.wrap IntKind.i64 k) (12 :
  Int)) ≤ bitsF (IntKind.wrap IntKind.i64 (Int.tmod (IntKind.wrap IntKind.i64 k) (12 : Int) + (1 : Int)))) then (0 : Int) ≤ bitsF (Int.tmod (IntKind.wrap IntKind.i64 k) (12 : Int)) ∧ decide (countF (4 : Int) (Int.tmod
  (IntKind.wrap IntKind.i64 k) (12 : Int)) ≤ ishl IntKind.i64 (1 : Int) (bitsF (Int.tmod (IntKind.wrap IntKind.i64 k) (12 : Int)))) = true else (false = true → false = true) ∧ false = true else ((false = true → false =
  true) ∧ (false = true → false = true)) ∧ false = true else ((false = true → false = true) ∧ (false = true → false = true) ∧ (false = true → false = true)) ∧ false = true
theorem vc7 (n k : Int) : P7 n k = vcFun C7 (ann7 n k) Go.Proofs.Try.f7 [⟨.int .u8, n⟩, ⟨.int .u8, k⟩] [] (out7 n k) := by kernel_rfl

end Go.SL.A

namespace Go.SL.A
open Go Go.SL Go.SL.S

theorem cnt_zero : ∀ n, cnt n 0 = 1
  | 0 => rfl
  | n + 1 => cnt_zero n

theorem countF_val {n k : Int} (h : 0 ≤ n ∧ n ≤ 8 ∧ 0 ≤ k ∧ k ≤ 12) : countF n k = cnt n.toNat k.toNat := by
  unfold countF; rw [may_iff.2 h]; rfl

theorem bitLen_mono {a b : Nat} (h : a ≤ b) : bitLen a ≤ bitLen b := by
  unfold bitLen
  split
  · omega
  · rename_i ha
    rw [if_neg (by omega)]
    have h1 := Nat.log2_self_le ha
    have h2 := (Nat.log2_lt (n := a) (k := b.log2 + 1) ha).2 (by have := Nat.lt_log2_self (n := b); omega)
    omega

theorem bitLen_pow (a : Nat) : a < 2 ^ bitLen a := by
  unfold bitLen
  split
  · rename_i h; subst h; decide
  · exact Nat.lt_log2_self

theorem bitLen_small {a : Nat} (h : a < 2 ^ 33) : bitLen a ≤ 33 := by
  unfold bitLen
  split
  · omega
  · rename_i ha; have := (Nat.log2_lt (n := a) (k := 33) ha).2 h; omega

theorem pure7 (n k : Int) (hw : (0 ≤ n ∧ n ≤ 255) ∧ 0 ≤ k ∧ k ≤ 255) : P7 n k := by
  unfold P7
  obtain ⟨⟨a1, a2⟩, b1, b2⟩ := hw
  rw [w64 (n := n) (by omega) (by omega), w64 (n := k) (by omega) (by omega)]
  have d1 := tdm n (k := 8) (by decide)
  have d2 := tdm k (k := 12) (by decide)
  generalize n.tmod 8 = m at *
  generalize k.tmod 12 = q at *
  rw [w64 (n := m + 1) (by omega) (by omega), w64 (n := q + 1) (by omega) (by omega)]
  have c1 := countF_fits m (q + 1)
  have c2 := countF_fits m q
  have c3 := countF_fits (m + 1) q
  have c4 := countF_fits 4 q
  have c5 := countF_fits 4 (q + 1)
  rw [w64 (n := countF m (q + 1) + countF m q) (by omega) (by omega), w64 (by omega) (by omega)]
  have e1 : countF (m + 1) (q + 1) = countF m (q + 1) + countF m q + countF (m + 1) q := by
    rw [countF_val (by omega), countF_val (n := m) (k := q + 1) (by omega), countF_val (n := m) (k := q) (by omega), countF_val (n := m + 1) (k := q) (by omega)]
    rw [show (m + 1).toNat = m.toNat + 1 by omega, show (q + 1).toNat = q.toNat + 1 by omega]
    rw [show cnt (m.toNat + 1) (q.toNat + 1) = cnt (m.toNat + 1) q.toNat + cnt m.toNat q.toNat + cnt m.toNat (q.toNat + 1) from rfl]; omega
  have e2 : countF m 0 = 1 := by rw [countF_val (by omega)]; exact cnt_zero _
  have e3 : countF 4 q ≤ countF 4 (q + 1) := by
    rw [countF_val (by omega), countF_val (n := 4) (k := q + 1) (by omega), show (q + 1).toNat = q.toNat + 1 by omega]
    rw [show cnt (4 : Int).toNat (q.toNat + 1) = cnt (4 : Int).toNat q.toNat + cnt 3 q.toNat + cnt 3 (q.toNat + 1) from rfl]
    have := (cnt_le 3 q.toNat).1; have := (cnt_le 3 (q.toNat + 1)).1; omega
  have e4 : bitsF q ≤ bitsF (q + 1) := by
    unfold bitsF
    have := bitLen_mono (a := (countF 4 q - 1).toNat) (b := (countF 4 (q + 1) - 1).toNat) (by omega); omega
  have e5 : 0 ≤ bitsF q := by unfold bitsF; omega
  have e6 : countF 4 q ≤ ishl .i64 1 (bitsF q) := by
    have h1 := bitLen_pow (countF 4 q - 1).toNat
    have h2 := bitLen_small (a := (countF 4 q - 1).toNat) (by omega)
    have h3 : 2 ^ bitLen (countF 4 q - 1).toNat ≤ 2 ^ 33 := Nat.pow_le_pow_right (by decide) h2
    unfold ishl bitsF
    rw [Int.toNat_natCast, show min (bitLen (countF 4 q - 1).toNat) IntKind.i64.bits = bitLen (countF 4 q - 1).toNat from Nat.min_eq_left (by have : IntKind.i64.bits = 64 := rfl; omega)]
    have h4 : (1 : Int) * 2 ^ bitLen (countF 4 q - 1).toNat = ((2 ^ bitLen (countF 4 q - 1).toNat : Nat) : Int) := by simp
    rw [h4, w64 (by omega) (by omega)]; omega
  simp [e1, e2, e4, e5, e6]

theorem hw7 {n k : Int} (hw : allP (List.flatMap (fun a : AV => a.t.wf a.x) [⟨.int .u8, n⟩, ⟨.int .u8, k⟩] ++ List.flatMap Blk.wf [])) : (0 ≤ n ∧ n ≤ 255) ∧ 0 ≤ k ∧ k ≤ 255 := by
  simp only [List.flatMap_cons, List.flatMap_nil, Ty.wf, List.append_nil, List.cons_append, List.nil_append, allP] at hw
  exact ⟨⟨hw.1, hw.2.1⟩, hw.2.2.1, hw.2.2.2⟩

end Go.SL.A

/- More plain laws of vectors. -/
namespace Go.SL.A
open Go Go.SL Go.SL.S

theorem cnt_pos : ∀ n k, 1 ≤ cnt (n + 1) k
  | n, 0 => by rw [show cnt (n + 1) 0 = cnt n 0 from rfl, cnt_zero]; omega
  | n, k + 1 => by
    have := cnt_pos n k
    have := (cnt_le n k).1
    have := (cnt_le n (k + 1)).1
    rw [show cnt (n + 1) (k + 1) = cnt (n + 1) k + cnt n k + cnt n (k + 1) from rfl]; omega

theorem countF_zero {m q : Int} (h : 0 ≤ m ∧ m ≤ 8 ∧ 0 ≤ q ∧ q ≤ 12) (hz : countF m q = 0) : m = 0 ∧ 0 < q := by
  rw [countF_val h] at hz
  cases hm : m.toNat with
  | succ n => rw [hm] at hz; have := cnt_pos n q.toNat; omega
  | zero =>
    rw [hm] at hz
    cases hq : q.toNat with
    | zero => rw [hq] at hz; simp [cnt, cnt0] at hz
    | succ k => omega

theorem countF_up {m q : Int} (h : 0 ≤ m ∧ m ≤ 7 ∧ 0 ≤ q ∧ q ≤ 12) : countF m q ≤ countF (m + 1) q := by
  rw [countF_val (by omega), countF_val (by omega), show (m + 1).toNat = m.toNat + 1 by omega, cnt_sum]
  have := sumTo_nn (f := cnt m.toNat) (fun i => (cnt_le m.toNat i).1) q.toNat; omega

theorem vec_split {m q i : Int} (h : 0 ≤ m ∧ m ≤ 7 ∧ 0 ≤ q ∧ q ≤ 12) (hi : 0 ≤ i) (hi2 : i < countF m q) : vecF (m + 1) q i = 0 :: vecF m q i := by
  have hu := countF_up h
  have hc := countF_val (n := m) (k := q) (by omega)
  have e1 : vecF (m + 1) q i = (vst (m + 1).toNat q i (m + 1).toNat).2.2 := by unfold vecF; rw [if_pos ⟨may_iff.2 (by omega), hi, by omega⟩]
  have e2 : vecF m q i = (vst m.toNat q i m.toNat).2.2 := by unfold vecF; rw [if_pos ⟨may_iff.2 (by omega), hi, by omega⟩]
  have g0 : (numsF q.toNat).getD 0 0 = 0 := by rw [numsF_get (by omega)]; rfl
  have hl := numsF_len q.toNat
  have s1 := sumBy_take_succ m.toNat q.toNat (l := numsF q.toNat) (p := 0) (by omega)
  rw [g0, show (sz13 0).toNat = 0 by decide, List.take_zero, show sumBy m.toNat q.toNat [] = 0 from rfl, Nat.sub_zero] at s1
  have hf := vst_first (n := m.toNat) (k := q) (i := i) (by omega) (by omega) (p := 0) (by omega) (by rw [List.take_zero]; exact hi) (by omega)
  rw [g0, show sz13 0 = 0 by decide, List.take_zero, show sumBy m.toNat q.toNat [] = 0 from rfl, Int.sub_zero, Int.sub_zero] at hf
  rw [e1, e2, show (m + 1).toNat = m.toNat + 1 by omega, hf]

end Go.SL.A
