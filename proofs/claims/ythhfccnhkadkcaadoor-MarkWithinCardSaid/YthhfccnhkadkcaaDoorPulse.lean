/- Heaps, and what is found nearest. -/
import Derived.Test.YthhfccnhkadkcaaDoorPvqV
import Derived.Test.YthhfccnhkadkcaaDoorT
import Derived.Test.YthhfccnhkadkcaaDoorKb
import Derived.Test.YthhfccnhkadkcaaDoorPvqB

/- Plain functions of pulse. -/
namespace Go.SL.S
open Go Go.SL
abbrev WT : Ty := .cons (.int .i64) (.cons (.int .i64) (.cons (.int .i64) (.last (.int .i64))))
def gainF (s : Int) : Int := if s < 0 ∨ 15 < s then 0 else 2 ^ s.toNat
def absF (x : Int) : Int := max x (-x)
def heldF (c : List Int) : Bool := c.all fun x => decide (-1048576 ≤ x ∧ x ≤ 1048576)
def fallF (s n g : Int) : Int := absF (s - n * g) - absF (s - (n + 1) * g)
end Go.SL.S

/- Functions and what they are held to do: bound to their code. -/
namespace Go.SL.A
open Go Go.SL Go.SL.S
set_option maxRecDepth 100000
end Go.SL.A

/- Pulse: small functions. -/
namespace Go.SL.A
open Go Go.SL Go.SL.S

theorem absF_le (x : Int) : 0 ≤ absF x ∧ (absF x = x ∨ absF x = -x) := by unfold absF; omega

theorem heldF_step {c : List Int} {i : Nat} (hi : i < c.length) : heldF (c.take (i + 1)) = (heldF (c.take i) && decide (-1048576 ≤ c.getD i 0 ∧ c.getD i 0 ≤ 1048576)) := by
  unfold heldF; rw [take_snoc' 0 hi, List.all_append]; simp

theorem heldF_not {c : List Int} {i : Nat} (hi : i < c.length) (h : ¬ (-1048576 ≤ c.getD i 0 ∧ c.getD i 0 ≤ 1048576)) : heldF c = false := by
  unfold heldF
  rw [List.all_eq_false]
  exact ⟨c.getD i 0, getD_mem hi, by simpa using h⟩

theorem hw93 {c : List Int} (hw : Go.SL.allP (List.flatMap (fun a : AV => a.t.wf a.x) [⟨.arr 4 (.int .i64), c⟩] ++ List.flatMap Blk.wf [])) : c.length = 4 := by
  simp only [List.flatMap_cons, List.flatMap_nil, Ty.wf, List.append_nil, List.cons_append, List.nil_append, Go.SL.allP] at hw
  exact hw.1

theorem gain_cases {s : Int} (h : 0 ≤ s ∧ s ≤ 15) : s = 0 ∨ s = 1 ∨ s = 2 ∨ s = 3 ∨ s = 4 ∨ s = 5 ∨ s = 6 ∨ s = 7 ∨ s = 8 ∨ s = 9 ∨ s = 10 ∨ s = 11 ∨ s = 12 ∨ s = 13 ∨ s = 14 ∨ s = 15 := by omega

end Go.SL.A

/- Functions do what they are held to do. -/
namespace Go.SL.A
open Go Go.SL Go.SL.S
end Go.SL.A

/- Heaps: plain functions. -/
namespace Go.SL.S
open Go Go.SL
abbrev W : Type := Int × Int × Int × Int
def wz : W := (0, 0, 0, 0)
def fallW (w : W) : Int := fallF w.2.1 w.2.2.1 w.2.2.2
def okW (w : W) : Prop := 0 ≤ w.2.1 ∧ w.2.1 ≤ 1048576 ∧ 0 ≤ w.2.2.1 ∧ w.2.2.1 ≤ 100 ∧ 0 ≤ w.2.2.2 ∧ w.2.2.2 ≤ 32768
def ltW (a b : W) : Bool := decide (fallW b < fallW a) || (decide (fallW a = fallW b) && decide (a.1 < b.1))
theorem ltW_ord : Ord ltW where
  asym := fun a b h => by
    simp only [ltW, Bool.or_eq_true, Bool.and_eq_true, decide_eq_true_eq, Bool.or_eq_false_iff, Bool.and_eq_false_iff, decide_eq_false_iff_not] at h ⊢
    omega
  tr := fun a b c h1 h2 => by
    simp only [ltW, Bool.or_eq_false_iff, Bool.and_eq_false_iff, decide_eq_false_iff_not] at h1 h2 ⊢
    omega
theorem ltW_fall {a b : W} (h : ltW a b = false) : fallW a ≤ fallW b := by
  simp only [ltW, Bool.or_eq_false_iff, decide_eq_false_iff_not] at h
  omega
end Go.SL.S

/- Functions and what they are held to do: bound to their code. -/
namespace Go.SL.A
open Go Go.SL Go.SL.S
set_option maxRecDepth 100000
end Go.SL.A

/- Heaps of wants: their methods. -/
namespace Go.SL.A
open Go Go.SL Go.SL.S

end Go.SL.A

/- Functions do what they are held to do. -/
namespace Go.SL.A
open Go Go.SL Go.SL.S
end Go.SL.A

/- Pulses, found one by one: plain laws. -/
namespace Go.SL.S
open Go Go.SL

def bump (w : W) : W := (w.1, w.2.1, w.2.2.1 + 1, w.2.2.2)

def stepY (c y : List Int) (a : Nat) : List Int := y.set a (if c.getD a 0 < 0 then y.getD a 0 - 1 else y.getD a 0 + 1)

def stepF (c : List Int) (s : List W × List Int) : List W × List Int :=
  (fixL ltW wz (s.1.set 0 (bump (s.1.getD 0 wz))), stepY c s.2 (s.1.getD 0 wz).1.toNat)

def iterF (c : List Int) (s : List W × List Int) : Nat → List W × List Int
  | 0 => s
  | k + 1 => stepF c (iterF c s k)

def pushTo (c : List Int) (g : Int) : Nat → List W
  | 0 => []
  | k + 1 => pushL ltW wz (pushTo c g k) ((k : Int), absF (c.getD k 0), 0, g)

def findF (c : List Int) (g : Int) (k : Nat) : List Int := (iterF c (pushTo c g 4, [0, 0, 0, 0]) k).2

/-- The wants of coefficients and pulses. -/
def wsF (c y : List Int) (g : Int) : List W := [(0, absF (c.getD 0 0), absF (y.getD 0 0), g), (1, absF (c.getD 1 0), absF (y.getD 1 0), g), (2, absF (c.getD 2 0), absF (y.getD 2 0), g), (3, absF (c.getD 3 0), absF (y.getD 3 0), g)]

/-- Pulses have their coefficients' signs. -/
def sgn (c y : Int) : Prop := if c < 0 then y ≤ 0 else 0 ≤ y

def lam (s n g q : Int) : Prop := fallF s n g ≤ q ∧ (1 ≤ n → q ≤ fallF s (n - 1) g)

structure FI (c : List Int) (g : Int) (k : Nat) (s : List W × List Int) : Prop where
  perm : s.1.Perm (wsF c s.2 g)
  hp : Hp ltW wz s.1 4
  len : s.2.length = 4
  sg : ∀ i, i < 4 → sgn (c.getD i 0) (s.2.getD i 0)
  sum : absF (s.2.getD 0 0) + absF (s.2.getD 1 0) + absF (s.2.getD 2 0) + absF (s.2.getD 3 0) = k
  lm : ∃ q, ∀ i, i < 4 → lam (absF (c.getD i 0)) (absF (s.2.getD i 0)) g q

theorem len4 {α : Type} {l : List α} (h : l.length = 4) : ∃ a b c d, l = [a, b, c, d] := by
  match l, h with
  | [a, b, c, d], _ => exact ⟨a, b, c, d, rfl⟩

theorem fall_anti (s n g : Int) (hg : 0 ≤ g) : fallF s (n + 1) g ≤ fallF s n g := by
  unfold fallF absF
  have e1 : (n + 1) * g = n * g + g := by rw [Int.add_mul, Int.one_mul]
  have e2 : (n + 1 + 1) * g = n * g + g + g := by rw [Int.add_mul, Int.add_mul, Int.one_mul]
  rw [e1, e2]
  generalize n * g = m
  omega

theorem FI.at0 {c : List Int} {g : Int} {k : Nat} {s : List W × List Int} (h : FI c g k s) : ∃ i, i < 4 ∧ s.1.getD 0 wz = (((i : Nat) : Int), absF (c.getD i 0), absF (s.2.getD i 0), g) ∧
    (s.1.set 0 (bump (s.1.getD 0 wz))).Perm ((wsF c s.2 g).set i (bump (s.1.getD 0 wz))) ∧ ∀ j, j < 4 → fallF (absF (c.getD j 0)) (absF (s.2.getD j 0)) g ≤ fallF (absF (c.getD i 0)) (absF (s.2.getD i 0)) g := by
  have hl : s.1.length = 4 := by rw [h.perm.length_eq]; rfl
  have hf := h.hp.first ltW_ord
  have hp := h.perm
  obtain ⟨w0, w1, w2, w3, e⟩ := len4 hl
  rw [e] at hp hf ⊢
  have hmem : w0 ∈ wsF c s.2 g := hp.subset (by simp)
  have e0 : [w0, w1, w2, w3].getD 0 wz = w0 := rfl
  rw [e0] at hf ⊢
  have hmin : ∀ w ∈ wsF c s.2 g, fallW w ≤ fallW w0 := by
    intro w hw
    have hw := hp.symm.subset hw
    simp only [List.mem_cons, List.not_mem_nil, or_false] at hw
    rcases hw with rfl | rfl | rfl | rfl
    · omega
    · exact ltW_fall (hf 1 (by omega))
    · exact ltW_fall (hf 2 (by omega))
    · exact ltW_fall (hf 3 (by omega))
  have hj : ∀ j, j < 4 → fallF (absF (c.getD j 0)) (absF (s.2.getD j 0)) g ≤ fallW w0 := by
    intro j hj
    have : j = 0 ∨ j = 1 ∨ j = 2 ∨ j = 3 := by omega
    rcases this with rfl | rfl | rfl | rfl
    · exact hmin (0, absF (c.getD 0 0), absF (s.2.getD 0 0), g) (by simp [wsF])
    · exact hmin (1, absF (c.getD 1 0), absF (s.2.getD 1 0), g) (by simp [wsF])
    · exact hmin (2, absF (c.getD 2 0), absF (s.2.getD 2 0), g) (by simp [wsF])
    · exact hmin (3, absF (c.getD 3 0), absF (s.2.getD 3 0), g) (by simp [wsF])
  simp only [wsF, List.mem_cons, List.not_mem_nil, or_false] at hmem
  have set0 : ∀ x : W, [w0, w1, w2, w3].set 0 x = [x, w1, w2, w3] := fun _ => rfl
  have hq : ∀ (A B : List W) (x y : W), wsF c s.2 g = A ++ [x] ++ B → w0 = x → [y, w1, w2, w3].Perm (A ++ [y] ++ B) := by
    intro A B x y he hx
    rw [he, ← hx] at hp
    have h1 : (A ++ [w0] ++ B).Perm (w0 :: (A ++ B)) := by
      rw [List.append_assoc]; exact List.perm_middle
    have h2 : (A ++ [y] ++ B).Perm (y :: (A ++ B)) := by
      rw [List.append_assoc]; exact List.perm_middle
    exact (List.Perm.cons y (List.Perm.cons_inv (hp.trans h1))).trans h2.symm
  rcases hmem with e1 | e1 | e1 | e1
  · refine ⟨0, by omega, e1, ?_, fun j h => by have := hj j h; rw [e1] at this; exact this⟩
    rw [set0]; exact hq [] _ _ _ rfl e1
  · refine ⟨1, by omega, e1, ?_, fun j h => by have := hj j h; rw [e1] at this; exact this⟩
    rw [set0]; exact hq [_] _ _ _ rfl e1
  · refine ⟨2, by omega, e1, ?_, fun j h => by have := hj j h; rw [e1] at this; exact this⟩
    rw [set0]; exact hq [_, _] _ _ _ rfl e1
  · refine ⟨3, by omega, e1, ?_, fun j h => by have := hj j h; rw [e1] at this; exact this⟩
    rw [set0]; exact hq [_, _, _] _ _ _ rfl e1

theorem FI.step {c : List Int} {g : Int} (hg : 0 ≤ g) {k : Nat} {s : List W × List Int} (h : FI c g k s) : FI c g (k + 1) (stepF c s) := by
  obtain ⟨i, hi, e, hp, hm⟩ := h.at0
  have hl : s.1.length = 4 := by rw [h.perm.length_eq]; rfl
  have hlen := h.len
  have hsg := h.sg
  have hsum := h.sum
  obtain ⟨q, hq⟩ := h.lm
  have hh := fix_hp ltW_ord wz (l := s.1) (bump (s.1.getD 0 wz)) (by rw [hl]; exact h.hp)
  rw [hl] at hh
  have hat : (s.1.getD 0 wz).1.toNat = i := by rw [e]; simp
  have hstep : absF ((stepY c s.2 i).getD i 0) = absF (s.2.getD i 0) + 1 ∧ sgn (c.getD i 0) ((stepY c s.2 i).getD i 0) := by
    have hs := hsg i hi
    have : (stepY c s.2 i).getD i 0 = if c.getD i 0 < 0 then s.2.getD i 0 - 1 else s.2.getD i 0 + 1 := by
      simp [stepY, hlen, hi]
    rw [this]
    unfold sgn at hs ⊢
    unfold absF
    split at hs
    · rename_i hc; simp only [hc, if_true]; omega
    · rename_i hc; simp only [hc, if_false]; omega
  have hoth : ∀ j, j ≠ i → (stepY c s.2 i).getD j 0 = s.2.getD j 0 := by
    intro j hj
    simp only [stepY, List.getD_eq_getElem?_getD, List.getElem?_set]
    rw [if_neg (Ne.symm hj)]
  have hws : (wsF c s.2 g).set i (bump (s.1.getD 0 wz)) = wsF c (stepY c s.2 i) g := by
    rw [e]
    have : i = 0 ∨ i = 1 ∨ i = 2 ∨ i = 3 := by omega
    rcases this with rfl | rfl | rfl | rfl
    · simp only [wsF, bump, hstep.1, hoth 1 (by omega), hoth 2 (by omega), hoth 3 (by omega)]; rfl
    · simp only [wsF, bump, hstep.1, hoth 0 (by omega), hoth 2 (by omega), hoth 3 (by omega)]; rfl
    · simp only [wsF, bump, hstep.1, hoth 0 (by omega), hoth 1 (by omega), hoth 3 (by omega)]; rfl
    · simp only [wsF, bump, hstep.1, hoth 0 (by omega), hoth 1 (by omega), hoth 2 (by omega)]; rfl
  have e2 : stepF c s = (fixL ltW wz (s.1.set 0 (bump (s.1.getD 0 wz))), stepY c s.2 i) := by unfold stepF; rw [hat]
  rw [e2]
  refine ⟨?_, hh, by simp [stepY, hlen], fun j hj => ?_, ?_, fallF (absF (c.getD i 0)) (absF (s.2.getD i 0)) g, fun j hj => ?_⟩
  · rw [← hws]
    exact (downL_perm ltW wz _ _ _ 0 (Nat.le_refl _)).trans hp
  · by_cases ej : j = i
    · subst ej; exact hstep.2
    · simp only [hoth j ej]; exact hsg j hj
  · have : i = 0 ∨ i = 1 ∨ i = 2 ∨ i = 3 := by omega
    rcases this with rfl | rfl | rfl | rfl
    · simp only [hstep.1, hoth 1 (by omega), hoth 2 (by omega), hoth 3 (by omega)]; omega
    · simp only [hstep.1, hoth 0 (by omega), hoth 2 (by omega), hoth 3 (by omega)]; omega
    · simp only [hstep.1, hoth 0 (by omega), hoth 1 (by omega), hoth 3 (by omega)]; omega
    · simp only [hstep.1, hoth 0 (by omega), hoth 1 (by omega), hoth 2 (by omega)]; omega
  · by_cases ej : j = i
    · subst ej
      simp only [hstep.1]
      refine ⟨fall_anti _ _ _ hg, fun _ => ?_⟩
      rw [Int.add_sub_cancel]; exact Int.le_refl _
    · simp only [hoth j ej]
      exact ⟨hm j hj, fun h1 => Int.le_trans (hq i hi).1 ((hq j hj).2 h1)⟩

theorem push4 (c : List Int) (g : Int) : (pushTo c g 4).Perm (wsF c [0, 0, 0, 0] g) ∧ Hp ltW wz (pushTo c g 4) 4 ∧ (pushTo c g 4).length = 4 := by
  have len : ∀ k, (pushTo c g k).length = k := by
    intro k
    induction k with
    | zero => rfl
    | succ k ih => rw [pushTo, pushL_len, ih]
  have hpp : ∀ k, Hp ltW wz (pushTo c g k) k := by
    intro k
    induction k with
    | zero => intro j _ h; omega
    | succ k ih =>
      rw [pushTo]
      have := push_hp ltW_ord wz ((k : Int), absF (c.getD k 0), 0, g) (l := pushTo c g k) (by rw [len]; exact ih)
      rw [len] at this; exact this
  refine ⟨?_, hpp 4, len 4⟩
  have p : ∀ (k : Nat) (l : List W), (pushTo c g k).Perm l → (pushTo c g (k + 1)).Perm (l ++ [((k : Int), absF (c.getD k 0), 0, g)]) := fun k l h => (pushL_perm ltW wz _ _).trans (h.append_right _)
  exact p 3 _ (p 2 _ (p 1 _ (p 0 [] (List.Perm.refl _))))

theorem FI.init (c : List Int) (g : Int) : FI c g 0 (pushTo c g 4, [0, 0, 0, 0]) := by
  obtain ⟨h1, h2, h3⟩ := push4 c g
  have h0 : ∀ i, i < 4 → ([0, 0, 0, 0] : List Int).getD i 0 = 0 := by
    intro i hi
    have : i = 0 ∨ i = 1 ∨ i = 2 ∨ i = 3 := by omega
    rcases this with rfl | rfl | rfl | rfl <;> rfl
  refine ⟨h1, h2, rfl, fun i hi => ?_, rfl, max (max (fallF (absF (c.getD 0 0)) 0 g) (fallF (absF (c.getD 1 0)) 0 g)) (max (fallF (absF (c.getD 2 0)) 0 g) (fallF (absF (c.getD 3 0)) 0 g)), fun i hi => ?_⟩
  · simp only [h0 i hi, sgn]; split <;> omega
  · simp only [h0 i hi]
    have e0 : absF 0 = 0 := by decide
    rw [e0]
    refine ⟨?_, fun h => by omega⟩
    have : i = 0 ∨ i = 1 ∨ i = 2 ∨ i = 3 := by omega
    rcases this with rfl | rfl | rfl | rfl <;> omega

theorem FI.iter (c : List Int) {g : Int} (hg : 0 ≤ g) : ∀ k, FI c g k (iterF c (pushTo c g 4, [0, 0, 0, 0]) k)
  | 0 => FI.init c g
  | k + 1 => (FI.iter c hg k).step hg

theorem lam_line {s n g q : Int} (hg : 0 ≤ g) (hn : 0 ≤ n) (h : lam s n g q) : ∀ m : Nat, absF (s - n * g) - q * ((m : Int) - n) ≤ absF (s - m * g) := by
  have up : ∀ d : Nat, absF (s - n * g) - q * (d : Int) ≤ absF (s - (n + d) * g) ∧ fallF s (n + d) g ≤ q := by
    intro d
    induction d with
    | zero => simp; exact h.1
    | succ d ih =>
      have e : n + ((d + 1 : Nat) : Int) = n + d + 1 := by omega
      rw [e]
      have h2 := fall_anti s (n + d) g hg
      refine ⟨?_, by omega⟩
      have h3 := ih.2
      unfold fallF at h3
      have e4 : q * ((d + 1 : Nat) : Int) = q * (d : Int) + q := by
        rw [show ((d + 1 : Nat) : Int) = (d : Int) + 1 by omega, Int.mul_add, Int.mul_one]
      rw [e4]; omega
  have dn : ∀ d : Nat, (d : Int) ≤ n → absF (s - n * g) + q * (d : Int) ≤ absF (s - (n - d) * g) ∧ ((d : Int) + 1 ≤ n → q ≤ fallF s (n - d - 1) g) := by
    intro d
    induction d with
    | zero => intro _; simp; intro h1; exact h.2 (by omega)
    | succ d ih =>
      intro hd
      obtain ⟨i1, i2⟩ := ih (by omega)
      have h3 := i2 (by omega)
      have e : n - ((d + 1 : Nat) : Int) = n - d - 1 := by omega
      rw [e]
      refine ⟨?_, fun h4 => ?_⟩
      · unfold fallF at h3
        have e4 : q * ((d + 1 : Nat) : Int) = q * (d : Int) + q := by
          rw [show ((d + 1 : Nat) : Int) = (d : Int) + 1 by omega, Int.mul_add, Int.mul_one]
        rw [Int.sub_add_cancel] at h3
        rw [e4]; omega
      · have := fall_anti s (n - d - 1 - 1) g hg
        rw [Int.sub_add_cancel] at this
        omega
  intro m
  rcases Int.le_total n m with h1 | h1
  · obtain ⟨d, hd⟩ := Int.eq_ofNat_of_zero_le (show 0 ≤ (m : Int) - n by omega)
    have := (up d).1
    rw [hd, show (m : Int) = n + d by omega]; exact this
  · obtain ⟨d, hd⟩ := Int.eq_ofNat_of_zero_le (show 0 ≤ n - (m : Int) by omega)
    have := (dn d (by omega)).1
    rw [show (m : Int) - n = -(d : Int) by omega, show (m : Int) = n - d by omega, Int.mul_neg]; omega

theorem abs_far {c z g : Int} (hg : 0 ≤ g) : absF (absF c - absF z * g) ≤ absF (c - z * g) := by
  have h1 : absF z * g = z * g ∨ absF z * g = -(z * g) := by
    unfold absF
    rcases Int.le_total 0 z with h | h
    · left; rw [show max z (-z) = z by omega]
    · right; rw [show max z (-z) = -z by omega, Int.neg_mul]
  have h2 : 0 ≤ absF z * g := Int.mul_nonneg (by unfold absF; omega) hg
  generalize absF z * g = a at *
  generalize z * g = b at *
  unfold absF; omega

theorem abs_near {c z g : Int} (hg : 0 ≤ g) (h : sgn c z) : absF (c - z * g) = absF (absF c - absF z * g) := by
  unfold sgn at h
  split at h
  · have e : absF z = -z := by unfold absF; omega
    rw [e, Int.neg_mul]
    generalize z * g = b
    unfold absF; omega
  · have e : absF z = z := by unfold absF; omega
    rw [e]
    generalize z * g = b
    unfold absF; omega

/-- How far pulses are. -/
def farF (c y : List Int) (g : Int) : Int := absF (c.getD 0 0 - y.getD 0 0 * g) + absF (c.getD 1 0 - y.getD 1 0 * g) + absF (c.getD 2 0 - y.getD 2 0 * g) + absF (c.getD 3 0 - y.getD 3 0 * g)

def sumF (y : List Int) : Int := absF (y.getD 0 0) + absF (y.getD 1 0) + absF (y.getD 2 0) + absF (y.getD 3 0)

theorem find_best (c : List Int) {g : Int} (hg : 0 ≤ g) (k : Nat) (z : List Int) (hz : sumF z = k) : farF c (findF c g k) g ≤ farF c z g := by
  have h := FI.iter c hg k
  obtain ⟨q, hq⟩ := h.lm
  have hs := h.sum
  have hsg := h.sg
  show farF c (iterF c (pushTo c g 4, [0, 0, 0, 0]) k).2 g ≤ _
  generalize (iterF c (pushTo c g 4, [0, 0, 0, 0]) k).2 = y at *
  have one : ∀ i, i < 4 → absF (c.getD i 0 - y.getD i 0 * g) - q * (absF (z.getD i 0) - absF (y.getD i 0)) ≤ absF (c.getD i 0 - z.getD i 0 * g) := by
    intro i hi
    have h0 : 0 ≤ absF (z.getD i 0) := by unfold absF; omega
    obtain ⟨m, hm⟩ := Int.eq_ofNat_of_zero_le h0
    have h1 := lam_line hg (by unfold absF; omega) (hq i hi) m
    rw [← hm] at h1
    have h2 := abs_far (c := c.getD i 0) (z := z.getD i 0) hg
    have h3 := abs_near hg (hsg i hi)
    rw [h3]; omega
  have o0 := one 0 (by omega)
  have o1 := one 1 (by omega)
  have o2 := one 2 (by omega)
  have o3 := one 3 (by omega)
  unfold farF sumF at *
  rw [Int.mul_sub] at o0 o1 o2 o3
  have e : q * (absF (z.getD 0 0)) + q * (absF (z.getD 1 0)) + q * (absF (z.getD 2 0)) + q * (absF (z.getD 3 0)) = q * (absF (y.getD 0 0)) + q * (absF (y.getD 1 0)) + q * (absF (y.getD 2 0)) + q * (absF (y.getD 3 0)) := by
    rw [← Int.mul_add, ← Int.mul_add, ← Int.mul_add, ← Int.mul_add, ← Int.mul_add, ← Int.mul_add, hz, hs]
  omega

end Go.SL.S

/- Heaps: how far up and down takes. -/
namespace Go.SL.S
open Go Go.SL
theorem upL_fuel {α : Type} (lt : α → α → Bool) (d : α) : ∀ (f : Nat) (l : List α) (j : Nat), j < f → upL lt d f l j = upL lt d (j + 1) l j := by
  intro f
  induction f using Nat.strongRecOn with
  | ind f ih =>
    intro l j h
    obtain ⟨f, rfl⟩ : ∃ g, f = g + 1 := ⟨f - 1, by omega⟩
    rw [upL, upL]
    cases h1 : decide ((j - 1) / 2 = j) with
    | true => rfl
    | false =>
      cases h2 : lt (l.getD j d) (l.getD ((j - 1) / 2) d) with
      | false => rfl
      | true =>
        have h1 := of_decide_eq_false h1
        by_cases hj : j < f
        · simp only
          rw [ih f (by omega) _ ((j - 1) / 2) (by omega), ih j (by omega) _ ((j - 1) / 2) (by omega)]
        · have : f = j := by omega
          rw [this]

theorem downL_fuel {α : Type} (lt : α → α → Bool) (d : α) (n : Nat) : ∀ (f : Nat) (l : List α) (i : Nat), n - i ≤ f → downL lt d n f l i = downL lt d n (n - i) l i := by
  intro f
  induction f using Nat.strongRecOn with
  | ind f ih =>
    intro l i h
    by_cases hin : 2 * i + 1 < n
    · obtain ⟨f, rfl⟩ : ∃ g, f = g + 1 := ⟨f - 1, by omega⟩
      obtain ⟨e, he⟩ : ∃ e, n - i = e + 1 := ⟨n - i - 1, by omega⟩
      rw [he, downL, downL]
      have hc := childL_cases lt d l i n
      generalize childL lt d l i n = c at *
      cases decide (2 * i + 1 < n) with
      | false => rfl
      | true =>
        cases lt (l.getD c d) (l.getD i d) with
        | false => rfl
        | true =>
          simp only
          rw [ih f (by omega) _ c (by omega)]
          by_cases hef : e = f
          · rw [hef, ih f (by omega) _ c (by omega)]
          · rw [ih e (by omega) _ c (by omega)]
    · have stop : ∀ f, downL lt d n f l i = (l, i) := by
        intro f
        cases f with
        | zero => rfl
        | succ f => rw [downL, decide_eq_false hin]
      rw [stop, stop]
end Go.SL.S

/- Functions and what they are held to do: bound to their code. -/
namespace Go.SL.A
open Go Go.SL Go.SL.S
set_option maxRecDepth 100000
end Go.SL.A

/- Heaps of wants: up, down, push, fix. -/
namespace Go.SL.A
open Go Go.SL Go.SL.S

theorem half_up {k : Nat} (h : k ≤ 1000000) : IntKind.i64.wrap (Int.tdiv (IntKind.i64.wrap ((k : Int) - 1)) 2) = (((k - 1) / 2 : Nat) : Int) := by
  rw [w64 (n := (k : Int) - 1) (by omega) (by omega)]
  have d := tdm ((k : Int) - 1) (k := 2) (by decide)
  generalize Int.tdiv ((k : Int) - 1) 2 = q at *
  generalize Int.tmod ((k : Int) - 1) 2 = r at *
  rw [w64 (by omega) (by omega)]
  omega

theorem downL_stop {α : Type} (lt : α → α → Bool) (d : α) {n i : Nat} (l : List α) (h : ¬ 2 * i + 1 < n) (f : Nat) : downL lt d n f l i = (l, i) := by
  cases f with
  | zero => rfl
  | succ f => rw [downL, decide_eq_false h]

theorem downL_step {α : Type} (lt : α → α → Bool) (d : α) {n i : Nat} (l : List α) (h : 2 * i + 1 < n) : downL lt d n (n - i) l i =
    bif lt (l.getD (childL lt d l i n) d) (l.getD i d) then downL lt d n (n - childL lt d l i n) (swapL d l i (childL lt d l i n)) (childL lt d l i n) else (l, i) := by
  obtain ⟨f, hf⟩ : ∃ f, n - i = f + 1 := ⟨n - i - 1, by omega⟩
  have hc := childL_cases lt d l i n
  rw [hf, downL, decide_eq_true h]
  generalize childL lt d l i n = c at *
  cases lt (l.getD c d) (l.getD i d) with
  | false => rfl
  | true =>
    simp only [cond_true]
    rw [downL_fuel lt d n f _ c (by omega)]

theorem tail129 {n : Nat} {i m : Int} {L : List W} {R : List W × Nat} {k c : Nat} (hl : L.length = n) (hn : n ≤ 1000000) (hm : m.toNat ≤ n) (hok : ∀ w, w ∈ L → okW w) (he : downL ltW wz m.toNat (m.toNat - k) L k = R) (hk : 2 * k + 1 < m.toNat)
    (hc : childL ltW wz L k m.toNat = c) (hcm : c < m.toNat) (hkc : k < c) :
    (n = L.length ∧ ((0 ≤ (c : Int) ∧ (c : Int) < (n : Int)) ∧ 0 ≤ (k : Int) ∧ (k : Int) < (n : Int)) ∧ okW (L.getD c wz) ∧ okW (L.getD k wz)) ∧
    bif !ltW (L.getD c wz) (L.getD k wz) then decide (i < (k : Int)) = decide (i < (R.2 : Int)) ∧ L = R.1
    else (n = L.length ∧ (0 ≤ (k : Int) ∧ (k : Int) < (n : Int)) ∧ 0 ≤ (c : Int) ∧ (c : Int) < (n : Int)) ∧ ∃ y : Nat × List W, ((c : Int) = (y.1 : Int) ∧ swapL wz L k c = y.2) ∧
      (y.2.length = n ∧ y.1 ≤ 1000000 ∧ (∀ w, List.Mem w y.2 → okW w) ∧ downL ltW wz m.toNat (m.toNat - y.1) y.2 y.1 = R) ∧ m.toNat - y.1 < m.toNat - k := by
  have m1 := hok _ (getD_mem (d := wz) (show c < L.length by omega))
  have m2 := hok _ (getD_mem (d := wz) (show k < L.length by omega))
  refine ⟨⟨hl.symm, ⟨⟨by omega, by omega⟩, by omega, by omega⟩, m1, m2⟩, ?_⟩
  rw [downL_step ltW wz L hk, hc] at he
  cases hlt : ltW (L.getD c wz) (L.getD k wz) with
  | false =>
    rw [hlt] at he
    simp only [Bool.not_false, cond_true]
    rw [cond_false] at he
    rw [← he]; exact ⟨rfl, rfl⟩
  | true =>
    rw [hlt, cond_true] at he
    simp only [Bool.not_true, cond_false]
    exact ⟨⟨hl.symm, ⟨by omega, by omega⟩, by omega, by omega⟩, (c, swapL wz L k c), ⟨rfl, rfl⟩, ⟨by simp only [swapL_len]; exact hl, by simp only; omega, fun w hw => hok w ((swapL_perm wz (by omega) (by omega)).subset hw), he⟩, by simp only; omega⟩

end Go.SL.A

/- Functions do what they are held to do. -/
namespace Go.SL.A
open Go Go.SL Go.SL.S
end Go.SL.A

/- Pulse: plain functions. -/
namespace Go.SL.S
open Go Go.SL
def fewF (y : List Int) : Bool := y.all fun x => decide (-12 ≤ x ∧ x ≤ 12)
def mayF14 (y : List Int) (s : Int) : Bool := fewF y && decide (0 < gainF s)
def coefF (y : List Int) (s : Int) : List Int := if mayF14 y s then y.map (· * gainF s) else [0, 0, 0, 0]
def farTo (c x : List Int) : Nat → Int
  | 0 => 0
  | i + 1 => farTo c x i + absF (c.getD i 0 - x.getD i 0)
def distF (c y : List Int) (s : Int) : Int := if mayF14 y s && heldF c then farTo c (coefF y s) 4 else -1
def findE (c : List Int) (s k : Int) : Int := if gainF s = 0 ∨ k < 0 ∨ 12 < k then 1 else if heldF c then 0 else 7
def findV (c : List Int) (s k : Int) : List Int := if findE c s k = 0 then findF c (gainF s) k.toNat else [0, 0, 0, 0]
def heldL (c : List Int) : List Int := c.map fun x => x.tmod 1048577
end Go.SL.S

/- Functions and what they are held to do: bound to their code. -/
namespace Go.SL.A
open Go Go.SL Go.SL.S
set_option maxRecDepth 100000
noncomputable def C97 : Ctx := ⟨Go.Proofs.Tryd.prog, D, G47, meth14, fun _ => []⟩
def ann97 (s : Int) : Nat → St → Option Ann := fun _ _ => some ⟨Nat, [0], [], fun i => [(4, .v (.int .i64) (i : Int)), (3, .v (.int .i64) (gainF i))], fun _ => [], fun i => (i : Int) ≤ s, fun i => s.toNat - i⟩
def out97 (s : Int) : COut := ⟨[0 ≤ s ∧ s ≤ 15], .v (.int .i64) (gainF s), [], []⟩
def sp97 : Spec := fun args ins => match args, ins with
  | [⟨.int .i64, s⟩], [] => some (out97 s)
  | _, _ => none
def G97 := addG G47 60 sp97
def P97 (s : Int) : Prop :=
  ∃ (x : Nat), ((s = s ∧ (1 : Int) = gainF (↑x : Int) ∧ (0 : Int) = (↑x : Int)) ∧ (↑x : Int) ≤ s) ∧ ∀ (x : Nat), (↑x : Int) ≤ s → IntKind.min IntKind.i64 ≤ (↑x : Int) ∧ (↑x : Int) ≤ IntKind.max IntKind.i64 ∧ IntKind.min
  IntKind.i64 ≤ gainF (↑x : Int) ∧ gainF (↑x : Int) ≤ IntKind.max IntKind.i64 → bif decide ((↑x : Int) < s) then ∃ (y : Nat), (s = s ∧ IntKind.wrap IntKind.i64 ((2 : Int) * gainF (↑x : Int)) = gainF (↑y : Int) ∧
  IntKind.wrap IntKind.i64 ((↑x : Int) + (1 : Int)) = (↑y : Int)) ∧ (↑y : Int) ≤ s ∧ Int.toNat s - y < Int.toNat s - x else gainF (↑x : Int) = gainF s
theorem vc97 (s : Int) : P97 s = vcFun C97 (ann97 s) Go.Proofs.Tryd.f60 [⟨.int .i64, s⟩] [] (out97 s) := by kernel_rfl

end Go.SL.A

/- Pulse: coefficients, distances, what is found. -/
namespace Go.SL.A
open Go Go.SL Go.SL.S

theorem hw98 {y : List Int} {s : Int} (hw : Go.SL.allP (List.flatMap (fun a : AV => a.t.wf a.x) [⟨.arr 4 (.int .i64), y⟩, ⟨.int .i64, s⟩] ++ List.flatMap Blk.wf [])) : y.length = 4 := by
  simp only [List.flatMap_cons, List.flatMap_nil, Ty.wf, List.append_nil, List.cons_append, List.nil_append, Go.SL.allP] at hw
  exact hw.1
theorem hw54 {c y : List Int} {s : Int} (hw : Go.SL.allP (List.flatMap (fun a : AV => a.t.wf a.x) [⟨.arr 4 (.int .i64), c⟩, ⟨.arr 4 (.int .i64), y⟩, ⟨.int .i64, s⟩] ++ List.flatMap Blk.wf [])) : c.length = 4 ∧ y.length = 4 := by
  simp only [List.flatMap_cons, List.flatMap_nil, Ty.wf, List.append_nil, List.cons_append, List.nil_append, Go.SL.allP] at hw
  exact ⟨hw.1, hw.2.2.1⟩
theorem hw52 {c : List Int} {s k : Int} (hw : Go.SL.allP (List.flatMap (fun a : AV => a.t.wf a.x) [⟨.arr 4 (.int .i64), c⟩, ⟨.int .i64, s⟩, ⟨.int .i64, k⟩] ++ List.flatMap Blk.wf [])) : c.length = 4 := by
  simp only [List.flatMap_cons, List.flatMap_nil, Ty.wf, List.append_nil, List.cons_append, List.nil_append, Go.SL.allP] at hw
  exact hw.1

theorem gain_fits (s : Int) : 0 ≤ gainF s ∧ gainF s ≤ 32768 := by
  unfold gainF
  split
  · omega
  · rcases gain_cases (s := s) (by omega) with rfl | rfl | rfl | rfl | rfl | rfl | rfl | rfl | rfl | rfl | rfl | rfl | rfl | rfl | rfl | rfl <;> decide

theorem gain_pos {s : Int} (h : 0 ≤ s ∧ s ≤ 15) : 0 < gainF s := by
  rcases gain_cases h with rfl | rfl | rfl | rfl | rfl | rfl | rfl | rfl | rfl | rfl | rfl | rfl | rfl | rfl | rfl | rfl <;> decide

theorem gain_zero {s : Int} (h : gainF s = 0) : ¬ (0 ≤ s ∧ s ≤ 15) := fun h' => by have := gain_pos h'; omega

theorem fewF_step {c : List Int} {i : Nat} (hi : i < c.length) : fewF (c.take (i + 1)) = (fewF (c.take i) && decide (-12 ≤ c.getD i 0 ∧ c.getD i 0 ≤ 12)) := by
  unfold fewF; rw [take_snoc' 0 hi, List.all_append]; simp

theorem fewF_not {c : List Int} {i : Nat} (hi : i < c.length) (h : ¬ (-12 ≤ c.getD i 0 ∧ c.getD i 0 ≤ 12)) : fewF c = false := by
  unfold fewF
  rw [List.all_eq_false]
  exact ⟨c.getD i 0, getD_mem hi, by simpa using h⟩

theorem fewF_at {c : List Int} (h : fewF c = true) (i : Nat) : -12 ≤ c.getD i 0 ∧ c.getD i 0 ≤ 12 := by
  by_cases hi : i < c.length
  · unfold fewF at h
    rw [List.all_eq_true] at h
    simpa using h _ (getD_mem (d := 0) hi)
  · rw [List.getD_eq_getElem?_getD, List.getElem?_eq_none (by omega)]; simp

theorem heldF_at {c : List Int} (h : heldF c = true) (i : Nat) : -1048576 ≤ c.getD i 0 ∧ c.getD i 0 ≤ 1048576 := by
  by_cases hi : i < c.length
  · unfold heldF at h
    rw [List.all_eq_true] at h
    simpa using h _ (getD_mem (d := 0) hi)
  · rw [List.getD_eq_getElem?_getD, List.getElem?_eq_none (by omega)]; simp


theorem mul_fits {x g : Int} (h1 : -12 ≤ x ∧ x ≤ 12) (h2 : 0 ≤ g ∧ g ≤ 32768) : -393216 ≤ x * g ∧ x * g ≤ 393216 := by
  have a : x * g ≤ 12 * g := Int.mul_le_mul_of_nonneg_right h1.2 h2.1
  have b : -12 * g ≤ x * g := Int.mul_le_mul_of_nonneg_right h1.1 h2.1
  omega

theorem coefF_may {y : List Int} {s : Int} (h : mayF14 y s = true) : coefF y s = y.map (· * gainF s) := by unfold coefF; rw [if_pos h]

theorem getD_map0 (y : List Int) (g : Int) (i : Nat) : (y.map (· * g)).getD i 0 = y.getD i 0 * g := by
  simp only [List.getD_eq_getElem?_getD, List.getElem?_map]
  cases y[i]? with
  | none => simp
  | some x => rfl

theorem mayF14_few {y : List Int} {s : Int} (h : mayF14 y s = true) : fewF y = true := by
  unfold mayF14 at h; rw [Bool.and_eq_true] at h; exact h.1

theorem coefF_at (y : List Int) (s : Int) (i : Nat) : -393216 ≤ (coefF y s).getD i 0 ∧ (coefF y s).getD i 0 ≤ 393216 := by
  unfold coefF
  split
  · rename_i h
    rw [getD_map0]
    exact mul_fits (fewF_at (mayF14_few h) i) (gain_fits s)
  · match i with
    | 0 => decide
    | 1 => decide
    | 2 => decide
    | 3 => decide
    | i + 4 => simp

theorem farTo_fits {c x : List Int} (hc : ∀ i, -1048576 ≤ c.getD i 0 ∧ c.getD i 0 ≤ 1048576) (hx : ∀ i, -393216 ≤ x.getD i 0 ∧ x.getD i 0 ≤ 393216) : ∀ i, 0 ≤ farTo c x i ∧ farTo c x i ≤ (i : Int) * 2000000
  | 0 => by simp [farTo]
  | i + 1 => by
    have h := farTo_fits hc hx i
    have h1 := hc i
    have h2 := hx i
    have h3 := absF_le (c.getD i 0 - x.getD i 0)
    rw [farTo]; omega

theorem gain_step {i : Nat} (h : i < 15) : gainF ((i + 1 : Nat) : Int) = 2 * gainF (i : Int) := by
  unfold gainF
  rw [if_neg (by omega), if_neg (by omega)]
  simp only [Int.toNat_natCast]
  rw [Int.pow_succ]; omega

theorem pure97 (s : Int) (h : 0 ≤ s ∧ s ≤ 15) : P97 s := by
  unfold P97
  simp only [eq_self, true_and, and_true]
  refine ⟨0, ⟨⟨by decide, rfl⟩, by simp; omega⟩, fun i hi _ => ?_⟩
  have hg := gain_fits (i : Int)
  by_cases h4 : (i : Int) < s
  · simp only [h4, decide_true, cond_true]
    refine ⟨i + 1, ⟨?_, step_i (by omega)⟩, by omega, by omega⟩
    rw [gain_step (by omega), w64 (by omega) (by omega)]
  · have : (i : Int) = s := by omega
    simp only [h4, decide_false, cond_false]
    rw [this]

theorem szR_abs (x : Int) (h : -9223372036854775807 ≤ x ∧ x ≤ 9223372036854775807) : szR x = absF x := by
  unfold szR absF
  split
  · first | (rw [w64 (by omega) (by omega)]; omega) | omega
  · omega

theorem FI.ok {c : List Int} {g : Int} {k : Nat} {s : List W × List Int} (h : FI c g k s) (hc : heldF c = true) (hg : 0 ≤ g ∧ g ≤ 32768) (hk : k ≤ 99) : ∀ w ∈ s.1, okW w ∧ w.2.2.1 ≤ k := by
  intro w hw
  have hw := h.perm.subset hw
  have hs := h.sum
  have n0 := absF_le (s.2.getD 0 0)
  have n1 := absF_le (s.2.getD 1 0)
  have n2 := absF_le (s.2.getD 2 0)
  have n3 := absF_le (s.2.getD 3 0)
  have c0 := heldF_at hc 0
  have c1 := heldF_at hc 1
  have c2 := heldF_at hc 2
  have c3 := heldF_at hc 3
  have a0 := absF_le (c.getD 0 0)
  have a1 := absF_le (c.getD 1 0)
  have a2 := absF_le (c.getD 2 0)
  have a3 := absF_le (c.getD 3 0)
  simp only [wsF, List.mem_cons, List.not_mem_nil, or_false] at hw
  unfold okW
  rcases hw with rfl | rfl | rfl | rfl <;> simp only <;> omega

theorem pushTo_len (c : List Int) (g : Int) : ∀ k, (pushTo c g k).length = k
  | 0 => rfl
  | k + 1 => by rw [pushTo, pushL_len, pushTo_len c g k]

theorem pushTo_mem (c : List Int) (g : Int) : ∀ k, ∀ w ∈ pushTo c g k, ∃ i : Nat, w = ((i : Int), absF (c.getD i 0), 0, g)
  | 0, w, h => by cases h
  | k + 1, w, h => by
    rw [pushTo] at h
    rcases List.mem_append.1 ((pushL_perm ltW wz _ _).subset h) with h | h
    · exact pushTo_mem c g k w h
    · exact ⟨k, List.mem_singleton.1 h⟩

end Go.SL.A

/- Functions do what they are held to do. -/
namespace Go.SL.A
open Go Go.SL Go.SL.S
theorem snd97 : Sound Go.Proofs.Tryd.prog G97 := snd47.add ⟨_, Go.Proofs.Tryd.func60, by kernel_rfl, by kernel_rfl⟩ (by
  intro args ins out h hp
  unfold sp97 at h
  split at h
  · rename_i s
    cases h
    exact vcFun_ok (C := C97) good snd47 methOk mix Go.Proofs.Tryd.func60 (ann97 s) (fun hw => by rw [← vc97 s]; exact pure97 s hp)
  · cases h)

end Go.SL.A

/- What is found, and how far it is: plain laws. -/
namespace Go.SL.A
open Go Go.SL Go.SL.S

theorem hwL14 {c : List Int} {s k : Int} (hw : Go.SL.allP (List.flatMap (fun a : AV => a.t.wf a.x) [⟨.arr 4 (.int .i64), c⟩, ⟨.int .u8, s⟩, ⟨.int .u8, k⟩] ++ List.flatMap Blk.wf [])) : c.length = 4 ∧ (0 ≤ s ∧ s ≤ 255) ∧ 0 ≤ k ∧ k ≤ 255 := by
  simp only [List.flatMap_cons, List.flatMap_nil, Ty.wf, List.append_nil, List.cons_append, List.nil_append, Go.SL.allP] at hw
  exact ⟨hw.1, ⟨hw.2.2.1, hw.2.2.2.1⟩, hw.2.2.2.2.1, hw.2.2.2.2.2⟩
theorem hw19 {k i s : Int} (hw : Go.SL.allP (List.flatMap (fun a : AV => a.t.wf a.x) [⟨.int .u8, k⟩, ⟨.int .u32, i⟩, ⟨.int .u8, s⟩] ++ List.flatMap Blk.wf [])) : (0 ≤ k ∧ k ≤ 255) ∧ (0 ≤ i ∧ i ≤ 4294967295) ∧ 0 ≤ s ∧ s ≤ 255 := by
  simp only [List.flatMap_cons, List.flatMap_nil, Ty.wf, List.append_nil, List.cons_append, List.nil_append, Go.SL.allP] at hw
  exact ⟨⟨hw.1, hw.2.1⟩, ⟨hw.2.2.1, hw.2.2.2.1⟩, hw.2.2.2.2.1, hw.2.2.2.2.2⟩
theorem hw20 {c : List Int} {s k i : Int} (hw : Go.SL.allP (List.flatMap (fun a : AV => a.t.wf a.x) [⟨.arr 4 (.int .i64), c⟩, ⟨.int .u8, s⟩, ⟨.int .u8, k⟩, ⟨.int .u32, i⟩] ++ List.flatMap Blk.wf [])) : c.length = 4 ∧ (0 ≤ s ∧ s ≤ 255) ∧ (0 ≤ k ∧ k ≤ 255) ∧ 0 ≤ i ∧ i ≤ 4294967295 := by
  simp only [List.flatMap_cons, List.flatMap_nil, Ty.wf, List.append_nil, List.cons_append, List.nil_append, Go.SL.allP] at hw
  exact ⟨hw.1, ⟨hw.2.2.1, hw.2.2.2.1⟩, ⟨hw.2.2.2.2.1, hw.2.2.2.2.2.1⟩, hw.2.2.2.2.2.2.1, hw.2.2.2.2.2.2.2⟩

theorem heldL_held (c : List Int) : heldF (heldL c) = true := by
  unfold heldF heldL
  rw [List.all_eq_true]
  intro x hx
  obtain ⟨y, -, rfl⟩ := List.mem_map.1 hx
  have := tdm y (k := 1048577) (by decide)
  simp only [decide_eq_true_eq]; omega
theorem heldL_len {c : List Int} (h : c.length = 4) : (heldL c).length = 4 := by simp [heldL, h]

theorem sz_abs {x : Int} (h : -12 ≤ x ∧ x ≤ 12) : sz13 x = absF x := by rw [sz13_small h.1 h.2]; rfl

theorem sum_sz {y : List Int} (hl : y.length = 4) (hf : ∀ i, -12 ≤ y.getD i 0 ∧ y.getD i 0 ≤ 12) : sumSz y = sumF y := by
  obtain ⟨a, b, c, d, rfl⟩ := len4 hl
  have h0 := hf 0
  have h1 := hf 1
  have h2 := hf 2
  have h3 := hf 3
  simp only [sumSz, sumF] at *
  have e0 := sz_abs h0
  have e1 := sz_abs h1
  have e2 := sz_abs h2
  have e3 := sz_abs h3
  simp only [List.getD_cons_zero, List.getD_cons_succ] at *
  omega

/-- What is found. -/
structure Found (c : List Int) (s k : Int) (y : List Int) : Prop where
  len : y.length = 4
  few : fewF y = true
  sg : ∀ i, i < 4 → sgn (c.getD i 0) (y.getD i 0)
  sum : sumF y = k
  best : ∀ z, sumF z = k → farF c y (gainF s) ≤ farF c z (gainF s)

theorem few_of {y : List Int} (h : ∀ i, -12 ≤ y.getD i 0 ∧ y.getD i 0 ≤ 12) : fewF y = true := by
  unfold fewF
  rw [List.all_eq_true]
  intro x hx
  obtain ⟨i, hi, rfl⟩ := List.mem_iff_getElem.1 hx
  have := h i
  rw [List.getD_eq_getElem?_getD, List.getElem?_eq_getElem hi] at this
  simpa using this

theorem findV_ok {c : List Int} {s k : Int} (hh : heldF c = true) (hs : 0 ≤ s ∧ s ≤ 15) (hk : 0 ≤ k ∧ k ≤ 12) : findE c s k = 0 ∧ Found c s k (findV c s k) := by
  have hg := gain_pos hs
  have hE : findE c s k = 0 := by
    unfold findE
    rw [if_neg (by omega), hh, if_pos rfl]
  have F := FI.iter c (g := gainF s) (by omega) k.toNat
  have hb := find_best c (g := gainF s) (by omega) k.toNat
  have hV : findV c s k = findF c (gainF s) k.toNat := by unfold findV; rw [if_pos hE]
  refine ⟨hE, ?_⟩
  rw [hV]
  have hs := F.sum
  have hl := F.len
  have hsg := F.sg
  change (findF c (gainF s) k.toNat).length = 4 at hl
  change absF ((findF c (gainF s) k.toNat).getD 0 0) + absF ((findF c (gainF s) k.toNat).getD 1 0) + absF ((findF c (gainF s) k.toNat).getD 2 0) + absF ((findF c (gainF s) k.toNat).getD 3 0) = _ at hs
  change ∀ i, i < 4 → sgn (c.getD i 0) ((findF c (gainF s) k.toNat).getD i 0) at hsg
  generalize findF c (gainF s) k.toNat = y at *
  refine ⟨hl, few_of fun i => ?_, hsg, by unfold sumF; omega, fun z hz => hb z (by rw [hz]; omega)⟩
  have a0 := absF_le (y.getD 0 0)
  have a1 := absF_le (y.getD 1 0)
  have a2 := absF_le (y.getD 2 0)
  have a3 := absF_le (y.getD 3 0)
  match i with
  | 0 => omega
  | 1 => omega
  | 2 => omega
  | 3 => omega
  | i + 4 => rw [List.getD_eq_getElem?_getD, List.getElem?_eq_none (by omega)]; simp

theorem Found.pulses {c : List Int} {s k : Int} {y : List Int} (h : Found c s k y) (hk : k ≤ 12) : pulsesF y = k := by
  unfold pulsesF
  rw [if_neg (by rw [h.len]; decide), sum_sz h.len (fewF_at h.few), h.sum]; omega

theorem farTo_far {c y : List Int} {s : Int} (hs : 0 ≤ s ∧ s ≤ 15) (hf : fewF y = true) : farTo c (coefF y s) 4 = farF c y (gainF s) := by
  have hm : mayF14 y s = true := by unfold mayF14; rw [hf, Bool.true_and, decide_eq_true_eq]; exact gain_pos hs
  rw [coefF_may hm]
  simp only [farTo, farF, getD_map0]; omega

theorem distF_far {c y : List Int} {s : Int} (hs : 0 ≤ s ∧ s ≤ 15) (hf : fewF y = true) (hh : heldF c = true) : distF c y s = farF c y (gainF s) := by
  have hm : mayF14 y s = true := by unfold mayF14; rw [hf, Bool.true_and, decide_eq_true_eq]; exact gain_pos hs
  unfold distF
  rw [hm, hh]
  exact farTo_far hs hf

/-- A vector of four numbers. -/
theorem vec4 {k i : Int} (hk : 0 ≤ k ∧ k ≤ 12) (hi : 0 ≤ i) (hi2 : i < countF 4 k) : vecE 4 k i = 0 ∧ (vecF 4 k i).length = 4 ∧ fewF (vecF 4 k i) = true ∧ sumF (vecF 4 k i) = k := by
  obtain ⟨v1, v2, v3, v4, v5, v6⟩ := vec_ok (n := 4) (k := k) (i := i) (by omega) hi hi2
  have hl : (vecF 4 k i).length = 4 := by omega
  have hm := vst_ok (n := 4) (k := k) (i := i) (by omega) hk.1 hk.2 hi (by
    unfold countF at hi2; rw [if_pos (may_iff.2 (by omega))] at hi2; exact hi2) 4 (by omega)
  have hr := hm.1.rng
  have hv : vecF 4 k i = (vst 4 k i 4).2.2 := by unfold vecF; rw [if_pos ⟨may_iff.2 (by omega), hi, hi2⟩]; rfl
  have hf : ∀ j, -12 ≤ (vecF 4 k i).getD j 0 ∧ (vecF 4 k i).getD j 0 ≤ 12 := by
    intro j
    rw [hv] at hl ⊢
    by_cases hj : j < ((vst 4 k i 4).2.2).length
    · exact hr _ (getD_mem hj)
    · rw [List.getD_eq_getElem?_getD, List.getElem?_eq_none (by omega)]; simp
  exact ⟨v1, hl, few_of hf, by rw [← sum_sz hl hf]; exact v3⟩
end Go.SL.A
