/- What the vectors' order is. -/
import Derived.Test.YthhfccnhkadkcaaDoorPvq

/- Functions and what they are held to do: bound to their code. -/
namespace Go.SL.A
open Go Go.SL Go.SL.S
set_option maxRecDepth 100000
end Go.SL.A

namespace Go.SL.A
open Go Go.SL Go.SL.S

theorem cnt_zero : ∀ n, cnt n 0 = 1
  | 0 => rfl
  | n + 1 => cnt_zero n

theorem countF_val {n k : Int} (h : 0 ≤ n ∧ n ≤ 8 ∧ 0 ≤ k ∧ k ≤ 12) : countF n k = cnt n.toNat k.toNat := by
  unfold countF; rw [may_iff.2 h]; rfl

theorem bitLen_mono {a b : Nat} (h : a ≤ b) : bitLen a ≤ bitLen b := by
  unfold bitLen
  split
  · omega
  · rename_i ha
    rw [if_neg (by omega)]
    have h1 := Nat.log2_self_le ha
    have h2 := (Nat.log2_lt (n := a) (k := b.log2 + 1) ha).2 (by have := Nat.lt_log2_self (n := b); omega)
    omega

theorem bitLen_pow (a : Nat) : a < 2 ^ bitLen a := by
  unfold bitLen
  split
  · rename_i h; subst h; decide
  · exact Nat.lt_log2_self

theorem bitLen_small {a : Nat} (h : a < 2 ^ 33) : bitLen a ≤ 33 := by
  unfold bitLen
  split
  · omega
  · rename_i ha; have := (Nat.log2_lt (n := a) (k := 33) ha).2 h; omega

theorem hw7 {n k : Int} (hw : allP (List.flatMap (fun a : AV => a.t.wf a.x) [⟨.int .u8, n⟩, ⟨.int .u8, k⟩] ++ List.flatMap Blk.wf [])) : (0 ≤ n ∧ n ≤ 255) ∧ 0 ≤ k ∧ k ≤ 255 := by
  simp only [List.flatMap_cons, List.flatMap_nil, Ty.wf, List.append_nil, List.cons_append, List.nil_append, allP] at hw
  exact ⟨⟨hw.1, hw.2.1⟩, hw.2.2.1, hw.2.2.2⟩

end Go.SL.A

/- More plain laws of vectors. -/
namespace Go.SL.A
open Go Go.SL Go.SL.S

theorem cnt_pos : ∀ n k, 1 ≤ cnt (n + 1) k
  | n, 0 => by rw [show cnt (n + 1) 0 = cnt n 0 from rfl, cnt_zero]; omega
  | n, k + 1 => by
    have := cnt_pos n k
    have := (cnt_le n k).1
    have := (cnt_le n (k + 1)).1
    rw [show cnt (n + 1) (k + 1) = cnt (n + 1) k + cnt n k + cnt n (k + 1) from rfl]; omega

theorem countF_zero {m q : Int} (h : 0 ≤ m ∧ m ≤ 8 ∧ 0 ≤ q ∧ q ≤ 12) (hz : countF m q = 0) : m = 0 ∧ 0 < q := by
  rw [countF_val h] at hz
  cases hm : m.toNat with
  | succ n => rw [hm] at hz; have := cnt_pos n q.toNat; omega
  | zero =>
    rw [hm] at hz
    cases hq : q.toNat with
    | zero => rw [hq] at hz; simp [cnt, cnt0] at hz
    | succ k => omega

theorem countF_up {m q : Int} (h : 0 ≤ m ∧ m ≤ 7 ∧ 0 ≤ q ∧ q ≤ 12) : countF m q ≤ countF (m + 1) q := by
  rw [countF_val (by omega), countF_val (by omega), show (m + 1).toNat = m.toNat + 1 by omega, cnt_sum]
  have := sumTo_nn (f := cnt m.toNat) (fun i => (cnt_le m.toNat i).1) q.toNat; omega

theorem vec_split {m q i : Int} (h : 0 ≤ m ∧ m ≤ 7 ∧ 0 ≤ q ∧ q ≤ 12) (hi : 0 ≤ i) (hi2 : i < countF m q) : vecF (m + 1) q i = 0 :: vecF m q i := by
  have hu := countF_up h
  have hc := countF_val (n := m) (k := q) (by omega)
  have e1 : vecF (m + 1) q i = (vst (m + 1).toNat q i (m + 1).toNat).2.2 := by unfold vecF; rw [if_pos ⟨may_iff.2 (by omega), hi, by omega⟩]
  have e2 : vecF m q i = (vst m.toNat q i m.toNat).2.2 := by unfold vecF; rw [if_pos ⟨may_iff.2 (by omega), hi, by omega⟩]
  have g0 : (numsF q.toNat).getD 0 0 = 0 := by rw [numsF_get (by omega)]; rfl
  have hl := numsF_len q.toNat
  have s1 := sumBy_take_succ m.toNat q.toNat (l := numsF q.toNat) (p := 0) (by omega)
  rw [g0, show (sz13 0).toNat = 0 by decide, List.take_zero, show sumBy m.toNat q.toNat [] = 0 from rfl, Nat.sub_zero] at s1
  have hf := vst_first (n := m.toNat) (k := q) (i := i) (by omega) (by omega) (p := 0) (by omega) (by rw [List.take_zero]; exact hi) (by omega)
  rw [g0, show sz13 0 = 0 by decide, List.take_zero, show sumBy m.toNat q.toNat [] = 0 from rfl, Int.sub_zero, Int.sub_zero] at hf
  rw [e1, e2, show (m + 1).toNat = m.toNat + 1 by omega, hf]

end Go.SL.A
