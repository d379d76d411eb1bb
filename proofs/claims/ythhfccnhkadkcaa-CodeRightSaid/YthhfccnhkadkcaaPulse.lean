/- Heaps, and the functions of the package pulse, do what they are held to do; what is found is nearest. -/
import Derived.Test.YthhfccnhkadkcaaPvqV
import Derived.Test.YthhfccnhkadkcaaT
import Derived.Test.YthhfccnhkadkcaaKb
import Derived.Test.YthhfccnhkadkcaaPvqB

/- Plain functions of pulse. -/
namespace Go.SL.S
open Go Go.SL
abbrev WT : Ty := .cons (.int .i64) (.cons (.int .i64) (.cons (.int .i64) (.last (.int .i64))))
def gainF (s : Int) : Int := if s < 0 ∨ 15 < s then 0 else 2 ^ s.toNat
def absF (x : Int) : Int := max x (-x)
def heldF (c : List Int) : Bool := c.all fun x => decide (-1048576 ≤ x ∧ x ≤ 1048576)
def fallF (s n g : Int) : Int := absF (s - n * g) - absF (s - (n + 1) * g)
end Go.SL.S

/- Functions and what they are held to do: bound to their code. -/
namespace Go.SL.A
open Go Go.SL Go.SL.S
set_option maxRecDepth 100000
noncomputable def C92 : Ctx := ⟨Go.Proofs.Try.prog, D, G47, meth14, fun _ => []⟩
def ann92 (_s : Int) : Nat → St → Option Ann := fun _ _ => none
def out92 (s : Int) : COut := ⟨[], .v (.int .i64) (gainF s), [], []⟩
def sp92 : Spec := fun args ins => match args, ins with
  | [⟨.int .i64, s⟩], [] => some (out92 s)
  | _, _ => none
def G92 := addG G47 92 sp92
def P92 (s : Int) : Prop :=
  ∀ (b : Bool), decide (s < (0 : Int)) = b → (((!b) = true → (!b) = true) ∧ (b = false → (!b) = true)) ∧ bif bif b then true else decide ((15 : Int) < s) then (0 : Int) = gainF s else (0 : Int) ≤ s ∧ ishl IntKind.i64 (1 :
  Int) s = gainF s
theorem vc92 (s : Int) : P92 s = vcFun C92 (ann92 s) Go.Proofs.Try.f92 [⟨.int .i64, s⟩] [] (out92 s) := by kernel_rfl

noncomputable def C95 : Ctx := ⟨Go.Proofs.Try.prog, D, G92, meth14, fun _ => []⟩
def ann95 (_x : Int) : Nat → St → Option Ann := fun _ _ => none
def out95 (x : Int) : COut := ⟨[-9223372036854775807 ≤ x ∧ x ≤ 9223372036854775807], .v (.int .i64) (absF x), [], []⟩
def sp95 : Spec := fun args ins => match args, ins with
  | [⟨.int .i64, x⟩], [] => some (out95 x)
  | _, _ => none
def G95 := addG G92 95 sp95
def P95 (x : Int) : Prop :=
  max x (IntKind.wrap IntKind.i64 ((0 : Int) - x)) = absF x
theorem vc95 (x : Int) : P95 x = vcFun C95 (ann95 x) Go.Proofs.Try.f95 [⟨.int .i64, x⟩] [] (out95 x) := by kernel_rfl

noncomputable def C93 : Ctx := ⟨Go.Proofs.Try.prog, D, G95, meth14, fun _ => []⟩
def ann93 (c : List Int) : Nat → St → Option Ann := fun _ _ => some ⟨Nat, [5], [], fun i => [(6, .v (.int .i64) (i : Int))], fun _ => [], fun i => i ≤ 4 ∧ heldF (c.take i) = true, fun i => 4 - i⟩
def out93 (c : List Int) : COut := ⟨[], .v .bool (heldF c), [], []⟩
def sp93 : Spec := fun args ins => match args, ins with
  | [⟨.arr 4 (.int .i64), c⟩], [] => some (out93 c)
  | _, _ => none
def G93 := addG G95 93 sp93
def P93 (c : List Int) : Prop :=
  ∃ (x : Nat), ((c = c ∧ (0 : Int) = (↑x : Int)) ∧ x ≤ (4 : Nat) ∧ heldF (List.take x c) = true) ∧ ∀ (x : Nat), x ≤ (4 : Nat) ∧ heldF (List.take x c) = true → IntKind.min IntKind.i64 ≤ (↑x : Int) ∧ (↑x : Int) ≤ IntKind.max
  IntKind.i64 → bif decide ((↑x : Int) < (4 : Int)) then ((0 : Int) ≤ (↑x : Int) ∧ (↑x : Int) < (↑(4 : Nat) : Int)) ∧ ∀ (b : Bool), decide (List.getD c (Int.toNat (↑x : Int)) (0 : Int) < (-1048576 : Int)) = b → (((!b) =
  true → (!b) = true) ∧ (b = false → (!b) = true)) ∧ bif bif b then true else decide ((1048576 : Int) < List.getD c (Int.toNat (↑x : Int)) (0 : Int)) then false = heldF c else ∃ (y : Nat), (c = c ∧ IntKind.wrap IntKind.i64
  ((↑x : Int) + (1 : Int)) = (↑y : Int)) ∧ (y ≤ (4 : Nat) ∧ heldF (List.take y c) = true) ∧ (4 : Nat) - y < (4 : Nat) - x else true = heldF c
theorem vc93 (c : List Int) : P93 c = vcFun C93 (ann93 c) Go.Proofs.Try.f93 [⟨.arr 4 (.int .i64), c⟩] [] (out93 c) := by kernel_rfl

noncomputable def C187 : Ctx := ⟨Go.Proofs.Try.prog, D, G93, meth14, fun _ => []⟩
def ann187 (_a _s _n _g : Int) : Nat → St → Option Ann := fun _ _ => none
def out187 (_a s n g : Int) : COut := ⟨[0 ≤ s ∧ s ≤ 1048576 ∧ 0 ≤ n ∧ n ≤ 100 ∧ 0 ≤ g ∧ g ≤ 32768], .v (.int .i64) (fallF s n g), [], []⟩
def sp187 : Spec := fun args ins => match args, ins with
  | [⟨.cons (.int .i64) (.cons (.int .i64) (.cons (.int .i64) (.last (.int .i64)))), (a, s, n, g)⟩], [] => some (out187 a s n g)
  | _, _ => none
def G187 := addG G93 187 sp187
def P187 (a s n g : Int) : Prop :=
  (((-9223372036854775807 : Int) ≤ IntKind.wrap IntKind.i64 (s - IntKind.wrap IntKind.i64 (n * g)) ∧ IntKind.wrap IntKind.i64 (s - IntKind.wrap IntKind.i64 (n * g)) ≤ (9223372036854775807 : Int)) ∧ (-9223372036854775807 :
  Int) ≤ IntKind.wrap IntKind.i64 (s - IntKind.wrap IntKind.i64 (IntKind.wrap IntKind.i64 (n + (1 : Int)) * g)) ∧ IntKind.wrap IntKind.i64 (s - IntKind.wrap IntKind.i64 (IntKind.wrap IntKind.i64 (n + (1 : Int)) * g)) ≤
  (9223372036854775807 : Int)) ∧ IntKind.wrap IntKind.i64 (absF (IntKind.wrap IntKind.i64 (s - IntKind.wrap IntKind.i64 (n * g))) - absF (IntKind.wrap IntKind.i64 (s - IntKind.wrap IntKind.i64 (IntKind.wrap IntKind.i64 (n +
  (1 : Int)) * g)))) = fallF s n g
theorem vc187 (a s n g : Int) : P187 a s n g = vcFun C187 (ann187 a s n g) Go.Proofs.Try.f187 [⟨.cons (.int .i64) (.cons (.int .i64) (.cons (.int .i64) (.last (.int .i64)))), (a, s, n, g)⟩] [] (out187 a s n g) := by kernel_rfl

end Go.SL.A

/- Pulse: small functions. -/
namespace Go.SL.A
open Go Go.SL Go.SL.S

theorem pure95 (x : Int) (h : -9223372036854775807 ≤ x ∧ x ≤ 9223372036854775807) : P95 x := by
  unfold P95 absF
  rw [w64 (by omega) (by omega), Int.zero_sub]

theorem absF_le (x : Int) : 0 ≤ absF x ∧ (absF x = x ∨ absF x = -x) := by unfold absF; omega

theorem pure187 (a s n g : Int) (h : 0 ≤ s ∧ s ≤ 1048576 ∧ 0 ≤ n ∧ n ≤ 100 ∧ 0 ≤ g ∧ g ≤ 32768) : P187 a s n g := by
  obtain ⟨h1, h2, h3, h4, h5, h6⟩ := h
  have m1 : 0 ≤ n * g := Int.mul_nonneg h3 h5
  have m2 : n * g ≤ 100 * 32768 := Int.mul_le_mul h4 h6 h5 (by omega)
  have m3 : (n + 1) * g = n * g + g := by rw [Int.add_mul, Int.one_mul]
  unfold P187 fallF
  rw [w64 (n := n * g) (by omega) (by omega), w64 (n := n + 1) (by omega) (by omega), w64 (n := (n + 1) * g) (by omega) (by omega), w64 (n := s - n * g) (by omega) (by omega), w64 (n := s - (n + 1) * g) (by omega) (by omega)]
  have := absF_le (s - n * g)
  have := absF_le (s - (n + 1) * g)
  refine ⟨by omega, w64 (by omega) (by omega)⟩

theorem heldF_step {c : List Int} {i : Nat} (hi : i < c.length) : heldF (c.take (i + 1)) = (heldF (c.take i) && decide (-1048576 ≤ c.getD i 0 ∧ c.getD i 0 ≤ 1048576)) := by
  unfold heldF; rw [take_snoc' 0 hi, List.all_append]; simp

theorem heldF_not {c : List Int} {i : Nat} (hi : i < c.length) (h : ¬ (-1048576 ≤ c.getD i 0 ∧ c.getD i 0 ≤ 1048576)) : heldF c = false := by
  unfold heldF
  rw [List.all_eq_false]
  exact ⟨c.getD i 0, getD_mem hi, by simpa using h⟩

theorem hw93 {c : List Int} (hw : Go.SL.allP (List.flatMap (fun a : AV => a.t.wf a.x) [⟨.arr 4 (.int .i64), c⟩] ++ List.flatMap Blk.wf [])) : c.length = 4 := by
  simp only [List.flatMap_cons, List.flatMap_nil, Ty.wf, List.append_nil, List.cons_append, List.nil_append, Go.SL.allP] at hw
  exact hw.1

theorem pure93 (c : List Int) (hl : c.length = 4) : P93 c := by
  unfold P93
  simp only [eq_self, true_and, Int.toNat_natCast]
  refine ⟨0, ⟨rfl, by omega, rfl⟩, fun i ⟨hi, hh⟩ _ => ?_⟩
  by_cases h4 : (i : Int) < 4
  · have hi4 : i < c.length := by omega
    have w : IntKind.i64.wrap ((i : Int) + 1) = ((i + 1 : Nat) : Int) := by rw [w64 (by omega) (by omega)]; simp
    simp only [h4, decide_true, cond_true, w]
    refine ⟨by omega, ?_⟩
    rintro _ rfl
    refine ⟨by simp, ?_⟩
    by_cases b1 : c.getD i 0 < -1048576
    · simp only [b1, decide_true, cond_true]; exact (heldF_not hi4 (by omega)).symm
    · by_cases b2 : 1048576 < c.getD i 0
      · simp only [b1, b2, decide_true, decide_false, cond_true, cond_false]; exact (heldF_not hi4 (by omega)).symm
      · simp only [b1, b2, decide_false, cond_false]
        refine ⟨i + 1, rfl, ⟨by omega, ?_⟩, by omega⟩
        rw [heldF_step hi4, hh, Bool.true_and, decide_eq_true_eq]; omega
  · have : i = 4 := by omega
    subst this
    simp only [h4, decide_false, cond_false]
    rw [List.take_of_length_le (by omega)] at hh
    exact hh.symm

theorem gain_cases {s : Int} (h : 0 ≤ s ∧ s ≤ 15) : s = 0 ∨ s = 1 ∨ s = 2 ∨ s = 3 ∨ s = 4 ∨ s = 5 ∨ s = 6 ∨ s = 7 ∨ s = 8 ∨ s = 9 ∨ s = 10 ∨ s = 11 ∨ s = 12 ∨ s = 13 ∨ s = 14 ∨ s = 15 := by omega

theorem pure92 (s : Int) : P92 s := by
  unfold P92 gainF
  rintro _ rfl
  refine ⟨by simp, ?_⟩
  by_cases h1 : s < 0
  · simp [h1]
  · by_cases h2 : 15 < s
    · simp [h1, h2]
    · have h3 : ¬ (s < 0 ∨ 15 < s) := by omega
      rw [if_neg h3]
      simp only [h1, h2, decide_false, cond_false]
      refine ⟨by omega, ?_⟩
      rcases gain_cases (s := s) (by omega) with rfl | rfl | rfl | rfl | rfl | rfl | rfl | rfl | rfl | rfl | rfl | rfl | rfl | rfl | rfl | rfl <;> decide
end Go.SL.A

/- Functions do what they are held to do. -/
namespace Go.SL.A
open Go Go.SL Go.SL.S
theorem snd92 : Sound Go.Proofs.Try.prog G92 := snd47.add ⟨_, Go.Proofs.Try.func92, by kernel_rfl, by kernel_rfl⟩ (by
  intro args ins out h hp
  unfold sp92 at h
  split at h
  · rename_i s
    cases h
    exact vcFun_ok (C := C92) good snd47 methOk mix Go.Proofs.Try.func92 (ann92 s) (fun hw => by rw [← vc92 s]; exact pure92 s)
  · cases h)

theorem snd95 : Sound Go.Proofs.Try.prog G95 := snd92.add ⟨_, Go.Proofs.Try.func95, by kernel_rfl, by kernel_rfl⟩ (by
  intro args ins out h hp
  unfold sp95 at h
  split at h
  · rename_i x
    cases h
    exact vcFun_ok (C := C95) good snd92 methOk mix Go.Proofs.Try.func95 (ann95 x) (fun hw => by rw [← vc95 x]; exact pure95 x hp)
  · cases h)

theorem snd93 : Sound Go.Proofs.Try.prog G93 := snd95.add ⟨_, Go.Proofs.Try.func93, by kernel_rfl, by kernel_rfl⟩ (by
  intro args ins out h hp
  unfold sp93 at h
  split at h
  · rename_i c
    cases h
    exact vcFun_ok (C := C93) good snd95 methOk mix Go.Proofs.Try.func93 (ann93 c) (fun hw => by rw [← vc93 c]; exact pure93 c (hw93 hw))
  · cases h)

theorem snd187 : Sound Go.Proofs.Try.prog G187 := snd93.add ⟨_, Go.Proofs.Try.func187, by kernel_rfl, by kernel_rfl⟩ (by
  intro args ins out h hp
  unfold sp187 at h
  split at h
  · rename_i a s n g
    cases h
    exact vcFun_ok (C := C187) good snd93 methOk mix Go.Proofs.Try.func187 (ann187 a s n g) (fun hw => by rw [← vc187 a s n g]; exact pure187 a s n g hp)
  · cases h)

end Go.SL.A

/- Heaps: plain functions. -/
namespace Go.SL.S
open Go Go.SL
abbrev W : Type := Int × Int × Int × Int
def wz : W := (0, 0, 0, 0)
def fallW (w : W) : Int := fallF w.2.1 w.2.2.1 w.2.2.2
def okW (w : W) : Prop := 0 ≤ w.2.1 ∧ w.2.1 ≤ 1048576 ∧ 0 ≤ w.2.2.1 ∧ w.2.2.1 ≤ 100 ∧ 0 ≤ w.2.2.2 ∧ w.2.2.2 ≤ 32768
def ltW (a b : W) : Bool := decide (fallW b < fallW a) || (decide (fallW a = fallW b) && decide (a.1 < b.1))
theorem ltW_ord : Ord ltW where
  asym := fun a b h => by
    simp only [ltW, Bool.or_eq_true, Bool.and_eq_true, decide_eq_true_eq, Bool.or_eq_false_iff, Bool.and_eq_false_iff, decide_eq_false_iff_not] at h ⊢
    omega
  tr := fun a b c h1 h2 => by
    simp only [ltW, Bool.or_eq_false_iff, Bool.and_eq_false_iff, decide_eq_false_iff_not] at h1 h2 ⊢
    omega
theorem ltW_fall {a b : W} (h : ltW a b = false) : fallW a ≤ fallW b := by
  simp only [ltW, Bool.or_eq_false_iff, decide_eq_false_iff_not] at h
  omega
end Go.SL.S

/- Functions and what they are held to do: bound to their code. -/
namespace Go.SL.A
open Go Go.SL Go.SL.S
set_option maxRecDepth 100000
noncomputable def C182 : Ctx := ⟨Go.Proofs.Try.prog, D, G187, meth14, fun _ => []⟩
def ann182 (_r : Bool) (_n : Nat) (_l : List (Int × Int × Int × Int)) : Nat → St → Option Ann := fun _ _ => none
def out182 (_r : Bool) (n : Nat) (_l : List (Int × Int × Int × Int)) : COut := ⟨[], .v (.int .i64) (n : Int), [], []⟩
def sp182 : Spec := fun args ins => match args, ins with
  | [⟨.ref .slice, .slice 0 (.cons (.int .i64) (.cons (.int .i64) (.cons (.int .i64) (.last (.int .i64))))) [] 0 n⟩], [⟨r, false, .cons (.int .i64) (.cons (.int .i64) (.cons (.int .i64) (.last (.int .i64)))), l⟩] => some (out182 r n l)
  | _, _ => none
def G182 := addG G187 182 sp182
def P182 (r : Bool) (n : Nat) (l : List (Int × Int × Int × Int)) : Prop :=
  (↑n : Int) = (↑n : Int) ∧ l = l ∧ r = r
theorem vc182 (r : Bool) (n : Nat) (l : List (Int × Int × Int × Int)) : P182 r n l = vcFun C182 (ann182 r n l) Go.Proofs.Try.f182 [⟨.ref .slice, .slice 0 (.cons (.int .i64) (.cons (.int .i64) (.cons (.int .i64) (.last (.int .i64))))) [] 0 n⟩] [⟨r, false, .cons (.int .i64) (.cons (.int .i64) (.cons (.int .i64) (.last (.int .i64)))), l⟩] (out182 r n l) := by kernel_rfl

noncomputable def C183 : Ctx := ⟨Go.Proofs.Try.prog, D, G182, meth14, fun _ => []⟩
def ann183 (_r : Bool) (_n : Nat) (_i _j : Int) (_l : List (Int × Int × Int × Int)) : Nat → St → Option Ann := fun _ _ => none
def out183 (_r : Bool) (n : Nat) (i j : Int) (l : List (Int × Int × Int × Int)) : COut := ⟨[n = l.length, (0 ≤ i ∧ i < n) ∧ 0 ≤ j ∧ j < n, okW (l.getD i.toNat wz) ∧ okW (l.getD j.toNat wz)], .v .bool (ltW (l.getD i.toNat wz) (l.getD j.toNat wz)), [], []⟩
def sp183 : Spec := fun args ins => match args, ins with
  | [⟨.ref .slice, .slice 0 (.cons (.int .i64) (.cons (.int .i64) (.cons (.int .i64) (.last (.int .i64))))) [] 0 n⟩, ⟨.int .i64, i⟩, ⟨.int .i64, j⟩], [⟨r, false, .cons (.int .i64) (.cons (.int .i64) (.cons (.int .i64) (.last (.int .i64)))), l⟩] => some (out183 r n i j l)
  | _, _ => none
def G183 := addG G182 183 sp183
def P183 (r : Bool) (n : Nat) (i j : Int) (l : List (Int × Int × Int × Int)) : Prop :=
  (((0 : Int) ≤ i ∧ i < (↑n : Int)) ∧ (0 : Nat) + Int.toNat i < List.length l ∧ ((0 : Int) ≤ Prod.fst (Prod.snd (List.getD l ((0 : Nat) + Int.toNat i) ((0 : Int), (0 : Int), (0 : Int), (0 : Int)))) ∧ Prod.fst (Prod.snd
  (List.getD l ((0 : Nat) + Int.toNat i) ((0 : Int), (0 : Int), (0 : Int), (0 : Int)))) ≤ (1048576 : Int) ∧ (0 : Int) ≤ Prod.fst (Prod.snd (Prod.snd (List.getD l ((0 : Nat) + Int.toNat i) ((0 : Int), (0 : Int), (0 : Int),
  (0 : Int))))) ∧ Prod.fst (Prod.snd (Prod.snd (List.getD l ((0 : Nat) + Int.toNat i) ((0 : Int), (0 : Int), (0 : Int), (0 : Int))))) ≤ (100 : Int) ∧ (0 : Int) ≤ Prod.snd (Prod.snd (Prod.snd (List.getD l ((0 : Nat) +
  Int.toNat i) ((0 : Int), (0 : Int), (0 : Int), (0 : Int))))) ∧ Prod.snd (Prod.snd (Prod.snd (List.getD l ((0 : Nat) + Int.toNat i) ((0 : Int), (0 : Int), (0 : Int), (0 : Int))))) ≤ (32768 : Int)) ∧ ((0 : Int) ≤ j ∧ j <
  (↑n : Int)) ∧ (0 : Nat) + Int.toNat j < List.length l ∧ (0 : Int) ≤ Prod.fst (Prod.snd (List.getD l ((0 : Nat) + Int.toNat j) ((0 : Int), (0 : Int), (0 : Int), (0 : Int)))) ∧ Prod.fst (Prod.snd (List.getD l ((0 : Nat) +
  Int.toNat j) ((0 : Int), (0 : Int), (0 : Int), (0 : Int)))) ≤ (1048576 : Int) ∧ (0 : Int) ≤ Prod.fst (Prod.snd (Prod.snd (List.getD l ((0 : Nat) + Int.toNat j) ((0 : Int), (0 : Int), (0 : Int), (0 : Int))))) ∧ Prod.fst
  (Prod.snd (Prod.snd (List.getD l ((0 : Nat) + Int.toNat j) ((0 : Int), (0 : Int), (0 : Int), (0 : Int))))) ≤ (100 : Int) ∧ (0 : Int) ≤ Prod.snd (Prod.snd (Prod.snd (List.getD l ((0 : Nat) + Int.toNat j) ((0 : Int), (0 :
  Int), (0 : Int), (0 : Int))))) ∧ Prod.snd (Prod.snd (Prod.snd (List.getD l ((0 : Nat) + Int.toNat j) ((0 : Int), (0 : Int), (0 : Int), (0 : Int))))) ≤ (32768 : Int)) ∧ ∀ (b : Bool), decide (fallF (Prod.fst (Prod.snd
  (List.getD l ((0 : Nat) + Int.toNat j) ((0 : Int), (0 : Int), (0 : Int), (0 : Int))))) (Prod.fst (Prod.snd (Prod.snd (List.getD l ((0 : Nat) + Int.toNat j) ((0 : Int), (0 : Int), (0 : Int), (0 : Int)))))) (Prod.snd
  (Prod.snd (Prod.snd (List.getD l ((0 : Nat) + Int.toNat j) ((0 : Int), (0 : Int), (0 : Int), (0 : Int)))))) < fallF (Prod.fst (Prod.snd (List.getD l ((0 : Nat) + Int.toNat i) ((0 : Int), (0 : Int), (0 : Int), (0 :
  Int))))) (Prod.fst (Prod.snd (Prod.snd (List.getD l ((0 : Nat) + Int.toNat i) ((0 : Int), (0 : Int), (0 : Int), (0 : Int)))))) (Prod.snd (Prod.snd (Prod.snd (List.getD l ((0 : Nat) + Int.toNat i) ((0 : Int), (0 : Int), (0
  : Int), (0 : Int))))))) = b → ∀ (b_1 : Bool), decide (fallF (Prod.fst (Prod.snd (List.getD l ((0 : Nat) + Int.toNat i) ((0 : Int), (0 : Int), (0 : Int), (0 : Int))))) (Prod.fst (Prod.snd (Prod.snd (List.getD l ((0 : Nat)
  + Int.toNat i) ((0 : Int), (0 : Int), (0 : Int), (0 : Int)))))) (Prod.snd (Prod.snd (Prod.snd (List.getD l ((0 : Nat) + Int.toNat i) ((0 : Int), (0 : Int), (0 : Int), (0 : Int)))))) = fallF (Prod.fst (Prod.snd (List.getD
  l ((0 : Nat) + Int.toNat j) ((0 : Int), (0 : Int), (0 : Int), (0 : Int))))) (Prod.fst (Prod.snd (Prod.snd (List.getD l ((0 : Nat) + Int.toNat j) ((0 : Int), (0 : Int), (0 : Int), (0 : Int)))))) (Prod.snd (Prod.snd
  (Prod.snd (List.getD l ((0 : Nat) + Int.toNat j) ((0 : Int), (0 : Int), (0 : Int), (0 : Int))))))) = b_1 → (((!b) = true → (!b) = true ∧ (!b) = true) ∧ ((!b && !b && b_1) = true → (!b && !b && b_1) = true ∧ (!b && !b &&
  b_1) = true ∧ (0 : Int) ≤ i ∧ i < (↑n : Int)) ∧ ((!b && !b && b_1) = true → (!b && !b && b_1) = true) ∧ ((!b && !b && b_1) = true → (!b && !b && b_1) = true ∧ (0 : Nat) + Int.toNat i < List.length l) ∧ ((!b && !b && b_1)
  = true → (!b && !b && b_1) = true ∧ (!b && !b && b_1) = true ∧ (0 : Int) ≤ j ∧ j < (↑n : Int)) ∧ ((!b && !b && b_1) = true → (!b && !b && b_1) = true) ∧ ((!b && !b && b_1) = true → (!b && !b && b_1) = true ∧ (0 : Nat) +
  Int.toNat j < List.length l) ∧ ((!b && !b && b_1) = true → (!b && !b && b_1) = true ∧ (!b && !b && b_1) = true) ∧ ((!b) = true → (!b && !b) = true ∧ (b_1 = true → (!b && !b && b_1) = true)) ∧ (b = false → (!b) = true)) ∧
  (bif b then true else bif b_1 then decide (Prod.fst (List.getD l ((0 : Nat) + Int.toNat i) ((0 : Int), (0 : Int), (0 : Int), (0 : Int))) < Prod.fst (List.getD l ((0 : Nat) + Int.toNat j) ((0 : Int), (0 : Int), (0 : Int),
  (0 : Int)))) else false) = ltW (List.getD l (Int.toNat i) wz) (List.getD l (Int.toNat j) wz) ∧ l = l ∧ r = r
theorem vc183 (r : Bool) (n : Nat) (i j : Int) (l : List (Int × Int × Int × Int)) : P183 r n i j l = vcFun C183 (ann183 r n i j l) Go.Proofs.Try.f183 [⟨.ref .slice, .slice 0 (.cons (.int .i64) (.cons (.int .i64) (.cons (.int .i64) (.last (.int .i64))))) [] 0 n⟩, ⟨.int .i64, i⟩, ⟨.int .i64, j⟩] [⟨r, false, .cons (.int .i64) (.cons (.int .i64) (.cons (.int .i64) (.last (.int .i64)))), l⟩] (out183 r n i j l) := by kernel_rfl

noncomputable def C186 : Ctx := ⟨Go.Proofs.Try.prog, D, G183, meth14, fun _ => []⟩
def ann186 (_n : Nat) (_i _j : Int) (_l : List (Int × Int × Int × Int)) : Nat → St → Option Ann := fun _ _ => none
def out186 (n : Nat) (i j : Int) (l : List (Int × Int × Int × Int)) : COut := ⟨[n = l.length, (0 ≤ i ∧ i < n) ∧ 0 ≤ j ∧ j < n], .tup [], [(0, some ⟨false, false, .cons (.int .i64) (.cons (.int .i64) (.cons (.int .i64) (.last (.int .i64)))), swapL wz l i.toNat j.toNat⟩)], []⟩
def sp186 : Spec := fun args ins => match args, ins with
  | [⟨.ref .slice, .slice 0 (.cons (.int .i64) (.cons (.int .i64) (.cons (.int .i64) (.last (.int .i64))))) [] 0 n⟩, ⟨.int .i64, i⟩, ⟨.int .i64, j⟩], [⟨false, false, .cons (.int .i64) (.cons (.int .i64) (.cons (.int .i64) (.last (.int .i64)))), l⟩] => some (out186 n i j l)
  | _, _ => none
def G186 := addG G183 186 sp186
def P186 (n : Nat) (i j : Int) (l : List (Int × Int × Int × Int)) : Prop :=
  (((0 : Int) ≤ j ∧ j < (↑n : Int)) ∧ (0 : Nat) + Int.toNat j < List.length l ∧ ((0 : Int) ≤ i ∧ i < (↑n : Int)) ∧ (0 : Nat) + Int.toNat i < List.length l ∧ ((0 : Int) ≤ i ∧ i < (↑n : Int)) ∧ (0 : Nat) + Int.toNat i <
  List.length l ∧ ((0 : Int) ≤ j ∧ j < (↑n : Int)) ∧ (0 : Nat) + Int.toNat j < List.length (List.set l ((0 : Nat) + Int.toNat i) (List.getD l ((0 : Nat) + Int.toNat j) ((0 : Int), (0 : Int), (0 : Int), (0 : Int))))) ∧
  List.set (List.set l ((0 : Nat) + Int.toNat i) (List.getD l ((0 : Nat) + Int.toNat j) ((0 : Int), (0 : Int), (0 : Int), (0 : Int)))) ((0 : Nat) + Int.toNat j) (List.getD l ((0 : Nat) + Int.toNat i) ((0 : Int), (0 : Int),
  (0 : Int), (0 : Int))) = swapL wz l (Int.toNat i) (Int.toNat j) ∧ false = false
theorem vc186 (n : Nat) (i j : Int) (l : List (Int × Int × Int × Int)) : P186 n i j l = vcFun C186 (ann186 n i j l) Go.Proofs.Try.f186 [⟨.ref .slice, .slice 0 (.cons (.int .i64) (.cons (.int .i64) (.cons (.int .i64) (.last (.int .i64))))) [] 0 n⟩, ⟨.int .i64, i⟩, ⟨.int .i64, j⟩] [⟨false, false, .cons (.int .i64) (.cons (.int .i64) (.cons (.int .i64) (.last (.int .i64)))), l⟩] (out186 n i j l) := by kernel_rfl

noncomputable def C185 : Ctx := ⟨Go.Proofs.Try.prog, D, G186, meth14, fun _ => []⟩
def ann185 (_n : Nat) (_l : List (Int × Int × Int × Int)) (_a _s _c _g : Int) : Nat → St → Option Ann := fun _ _ => none
def out185 (n : Nat) (l : List (Int × Int × Int × Int)) (a s c g : Int) : COut := ⟨[n = l.length ∧ n ≤ 1000000], .tup [], [(0, some ⟨false, true, .ref .slice, [.slice 2 (.cons (.int .i64) (.cons (.int .i64) (.cons (.int .i64) (.last (.int .i64))))) [] 0 (n + 1)]⟩), (1, none)], [⟨false, false, .cons (.int .i64) (.cons (.int .i64) (.cons (.int .i64) (.last (.int .i64)))), l ++ [(a, s, c, g)]⟩]⟩
def sp185 : Spec := fun args ins => match args, ins with
  | [⟨.ref .ptr, .ptr 0 (.ref .slice) [0]⟩, ⟨.ref .iface, .iface 140 (.agg [.int .i64 a, .int .i64 s, .int .i64 c, .int .i64 g])⟩], [⟨false, true, .ref .slice, [.slice 1 (.cons (.int .i64) (.cons (.int .i64) (.cons (.int .i64) (.last (.int .i64))))) [] 0 n]⟩, ⟨false, false, .cons (.int .i64) (.cons (.int .i64) (.cons (.int .i64) (.last (.int .i64)))), l⟩] => some (out185 n l a s c g)
  | _, _ => none
def G185 := addG G186 185 sp185
def P185 (n : Nat) (l : List (Int × Int × Int × Int)) (a s c g : Int) : Prop :=
  ((1 : Nat) ≤ (1 : Nat) ∧ (0 : Nat) + n = List.length l ∧ (n + List.length (seg ((a, s, c, g) :: List.replicate (nat_lit 0) ((0 : Int), (0 : Int), (0 : Int), (0 : Int))) (0 : Nat) (1 : Nat))) * (32 : Nat) ≤ (70368744177664
  : Nat)) ∧ (0 : Nat) = (0 : Nat) ∧ n + List.length (seg ((a, s, c, g) :: List.replicate (nat_lit 0) ((0 : Int), (0 : Int), (0 : Int), (0 : Int))) (0 : Nat) (1 : Nat)) = n + (1 : Nat) ∧ false = false ∧ List.append
  (List.drop (0 : Nat) l) (seg ((a, s, c, g) :: List.replicate (nat_lit 0) ((0 : Int), (0 : Int), (0 : Int), (0 : Int))) (0 : Nat) (1 : Nat)) = l ++ [(a, s, c, g)] ∧ false = false
theorem vc185 (n : Nat) (l : List (Int × Int × Int × Int)) (a s c g : Int) : P185 n l a s c g = vcFun C185 (ann185 n l a s c g) Go.Proofs.Try.f185 [⟨.ref .ptr, .ptr 0 (.ref .slice) [0]⟩, ⟨.ref .iface, .iface 140 (.agg [.int .i64 a, .int .i64 s, .int .i64 c, .int .i64 g])⟩] [⟨false, true, .ref .slice, [.slice 1 (.cons (.int .i64) (.cons (.int .i64) (.cons (.int .i64) (.last (.int .i64))))) [] 0 n]⟩, ⟨false, false, .cons (.int .i64) (.cons (.int .i64) (.cons (.int .i64) (.last (.int .i64)))), l⟩] (out185 n l a s c g) := by kernel_rfl

end Go.SL.A

/- Heaps of wants: their methods. -/
namespace Go.SL.A
open Go Go.SL Go.SL.S

theorem pure182 (r : Bool) (n : Nat) (l : List (Int × Int × Int × Int)) : P182 r n l := by unfold P182; simp

theorem pure183 (r : Bool) (n : Nat) (i j : Int) (l : List (Int × Int × Int × Int)) (h1 : n = l.length) (h2 : (0 ≤ i ∧ i < n) ∧ 0 ≤ j ∧ j < n) (h3 : okW (l.getD i.toNat wz) ∧ okW (l.getD j.toNat wz)) : P183 r n i j l := by
  subst h1
  obtain ⟨⟨a1, a2⟩, a3, a4⟩ := h2
  obtain ⟨o1, o2⟩ := h3
  unfold P183
  simp only [Nat.zero_add]
  refine ⟨⟨⟨a1, a2⟩, by omega, o1, ⟨a3, a4⟩, by omega, o2⟩, ?_⟩
  intro p hp q hq
  refine ⟨?_, ?_, trivial, trivial⟩
  · have b1 : i.toNat < l.length := by omega
    have b2 : j.toNat < l.length := by omega
    clear hp hq
    cases p <;> cases q <;> simp [a1, a2, a3, a4, b1, b2]
  · unfold ltW fallW
    rw [show wz = ((0 : Int), (0 : Int), (0 : Int), (0 : Int)) from rfl, hp, hq]
    cases p <;> cases q <;> simp

theorem pure186 (n : Nat) (i j : Int) (l : List (Int × Int × Int × Int)) (h1 : n = l.length) (h2 : (0 ≤ i ∧ i < n) ∧ 0 ≤ j ∧ j < n) : P186 n i j l := by
  subst h1
  unfold P186 swapL
  simp only [Nat.zero_add, List.length_set]
  exact ⟨⟨by omega, by omega, by omega, by omega, by omega, by omega, by omega, by omega⟩, rfl, trivial⟩

theorem pure185 (n : Nat) (l : List (Int × Int × Int × Int)) (a s c g : Int) (h : n = l.length ∧ n ≤ 1000000) : P185 n l a s c g := by
  unfold P185
  refine ⟨⟨Nat.le_refl _, by omega, ?_⟩, rfl, rfl, rfl, rfl, rfl⟩
  show (n + 1) * 32 ≤ 70368744177664
  omega
end Go.SL.A

/- Functions do what they are held to do. -/
namespace Go.SL.A
open Go Go.SL Go.SL.S
theorem snd182 : Sound Go.Proofs.Try.prog G182 := snd187.add ⟨_, Go.Proofs.Try.func182, by kernel_rfl, by kernel_rfl⟩ (by
  intro args ins out h hp
  unfold sp182 at h
  split at h
  · rename_i n r l
    cases h
    exact vcFun_ok (C := C182) good snd187 methOk mix Go.Proofs.Try.func182 (ann182 r n l) (fun hw => by rw [← vc182 r n l]; exact pure182 r n l)
  · cases h)

theorem snd183 : Sound Go.Proofs.Try.prog G183 := snd182.add ⟨_, Go.Proofs.Try.func183, by kernel_rfl, by kernel_rfl⟩ (by
  intro args ins out h hp
  unfold sp183 at h
  split at h
  · rename_i n i j r l
    cases h
    exact vcFun_ok (C := C183) good snd182 methOk mix Go.Proofs.Try.func183 (ann183 r n i j l) (fun hw => by rw [← vc183 r n i j l]; exact pure183 r n i j l hp.1 hp.2.1 hp.2.2)
  · cases h)

theorem snd186 : Sound Go.Proofs.Try.prog G186 := snd183.add ⟨_, Go.Proofs.Try.func186, by kernel_rfl, by kernel_rfl⟩ (by
  intro args ins out h hp
  unfold sp186 at h
  split at h
  · rename_i n i j l
    cases h
    exact vcFun_ok (C := C186) good snd183 methOk mix Go.Proofs.Try.func186 (ann186 n i j l) (fun hw => by rw [← vc186 n i j l]; exact pure186 n i j l hp.1 hp.2)
  · cases h)

theorem snd185 : Sound Go.Proofs.Try.prog G185 := snd186.add ⟨_, Go.Proofs.Try.func185, by kernel_rfl, by kernel_rfl⟩ (by
  intro args ins out h hp
  unfold sp185 at h
  split at h
  · rename_i a s c g n l
    cases h
    exact vcFun_ok (C := C185) good snd186 methOk mix Go.Proofs.Try.func185 (ann185 n l a s c g) (fun hw => by rw [← vc185 n l a s c g]; exact pure185 n l a s c g hp)
  · cases h)

end Go.SL.A

/- Pulses, found one by one: plain laws. -/
namespace Go.SL.S
open Go Go.SL

def bump (w : W) : W := (w.1, w.2.1, w.2.2.1 + 1, w.2.2.2)

def stepY (c y : List Int) (a : Nat) : List Int := y.set a (if c.getD a 0 < 0 then y.getD a 0 - 1 else y.getD a 0 + 1)

def stepF (c : List Int) (s : List W × List Int) : List W × List Int :=
  (fixL ltW wz (s.1.set 0 (bump (s.1.getD 0 wz))), stepY c s.2 (s.1.getD 0 wz).1.toNat)

def iterF (c : List Int) (s : List W × List Int) : Nat → List W × List Int
  | 0 => s
  | k + 1 => stepF c (iterF c s k)

def pushTo (c : List Int) (g : Int) : Nat → List W
  | 0 => []
  | k + 1 => pushL ltW wz (pushTo c g k) ((k : Int), absF (c.getD k 0), 0, g)

def findF (c : List Int) (g : Int) (k : Nat) : List Int := (iterF c (pushTo c g 4, [0, 0, 0, 0]) k).2

/-- The wants of coefficients and pulses. -/
def wsF (c y : List Int) (g : Int) : List W := [(0, absF (c.getD 0 0), absF (y.getD 0 0), g), (1, absF (c.getD 1 0), absF (y.getD 1 0), g), (2, absF (c.getD 2 0), absF (y.getD 2 0), g), (3, absF (c.getD 3 0), absF (y.getD 3 0), g)]

/-- Pulses have their coefficients' signs. -/
def sgn (c y : Int) : Prop := if c < 0 then y ≤ 0 else 0 ≤ y

def lam (s n g q : Int) : Prop := fallF s n g ≤ q ∧ (1 ≤ n → q ≤ fallF s (n - 1) g)

structure FI (c : List Int) (g : Int) (k : Nat) (s : List W × List Int) : Prop where
  perm : s.1.Perm (wsF c s.2 g)
  hp : Hp ltW wz s.1 4
  len : s.2.length = 4
  sg : ∀ i, i < 4 → sgn (c.getD i 0) (s.2.getD i 0)
  sum : absF (s.2.getD 0 0) + absF (s.2.getD 1 0) + absF (s.2.getD 2 0) + absF (s.2.getD 3 0) = k
  lm : ∃ q, ∀ i, i < 4 → lam (absF (c.getD i 0)) (absF (s.2.getD i 0)) g q

theorem len4 {α : Type} {l : List α} (h : l.length = 4) : ∃ a b c d, l = [a, b, c, d] := by
  match l, h with
  | [a, b, c, d], _ => exact ⟨a, b, c, d, rfl⟩

theorem fall_anti (s n g : Int) (hg : 0 ≤ g) : fallF s (n + 1) g ≤ fallF s n g := by
  unfold fallF absF
  have e1 : (n + 1) * g = n * g + g := by rw [Int.add_mul, Int.one_mul]
  have e2 : (n + 1 + 1) * g = n * g + g + g := by rw [Int.add_mul, Int.add_mul, Int.one_mul]
  rw [e1, e2]
  generalize n * g = m
  omega

theorem FI.at0 {c : List Int} {g : Int} {k : Nat} {s : List W × List Int} (h : FI c g k s) : ∃ i, i < 4 ∧ s.1.getD 0 wz = (((i : Nat) : Int), absF (c.getD i 0), absF (s.2.getD i 0), g) ∧
    (s.1.set 0 (bump (s.1.getD 0 wz))).Perm ((wsF c s.2 g).set i (bump (s.1.getD 0 wz))) ∧ ∀ j, j < 4 → fallF (absF (c.getD j 0)) (absF (s.2.getD j 0)) g ≤ fallF (absF (c.getD i 0)) (absF (s.2.getD i 0)) g := by
  have hl : s.1.length = 4 := by rw [h.perm.length_eq]; rfl
  have hf := h.hp.first ltW_ord
  have hp := h.perm
  obtain ⟨w0, w1, w2, w3, e⟩ := len4 hl
  rw [e] at hp hf ⊢
  have hmem : w0 ∈ wsF c s.2 g := hp.subset (by simp)
  have e0 : [w0, w1, w2, w3].getD 0 wz = w0 := rfl
  rw [e0] at hf ⊢
  have hmin : ∀ w ∈ wsF c s.2 g, fallW w ≤ fallW w0 := by
    intro w hw
    have hw := hp.symm.subset hw
    simp only [List.mem_cons, List.not_mem_nil, or_false] at hw
    rcases hw with rfl | rfl | rfl | rfl
    · omega
    · exact ltW_fall (hf 1 (by omega))
    · exact ltW_fall (hf 2 (by omega))
    · exact ltW_fall (hf 3 (by omega))
  have hj : ∀ j, j < 4 → fallF (absF (c.getD j 0)) (absF (s.2.getD j 0)) g ≤ fallW w0 := by
    intro j hj
    have : j = 0 ∨ j = 1 ∨ j = 2 ∨ j = 3 := by omega
    rcases this with rfl | rfl | rfl | rfl
    · exact hmin (0, absF (c.getD 0 0), absF (s.2.getD 0 0), g) (by simp [wsF])
    · exact hmin (1, absF (c.getD 1 0), absF (s.2.getD 1 0), g) (by simp [wsF])
    · exact hmin (2, absF (c.getD 2 0), absF (s.2.getD 2 0), g) (by simp [wsF])
    · exact hmin (3, absF (c.getD 3 0), absF (s.2.getD 3 0), g) (by simp [wsF])
  simp only [wsF, List.mem_cons, List.not_mem_nil, or_false] at hmem
  have set0 : ∀ x : W, [w0, w1, w2, w3].set 0 x = [x, w1, w2, w3] := fun _ => rfl
  have hq : ∀ (A B : List W) (x y : W), wsF c s.2 g = A ++ [x] ++ B → w0 = x → [y, w1, w2, w3].Perm (A ++ [y] ++ B) := by
    intro A B x y he hx
    rw [he, ← hx] at hp
    have h1 : (A ++ [w0] ++ B).Perm (w0 :: (A ++ B)) := by
      rw [List.append_assoc]; exact List.perm_middle
    have h2 : (A ++ [y] ++ B).Perm (y :: (A ++ B)) := by
      rw [List.append_assoc]; exact List.perm_middle
    exact (List.Perm.cons y (List.Perm.cons_inv (hp.trans h1))).trans h2.symm
  rcases hmem with e1 | e1 | e1 | e1
  · refine ⟨0, by omega, e1, ?_, fun j h => by have := hj j h; rw [e1] at this; exact this⟩
    rw [set0]; exact hq [] _ _ _ rfl e1
  · refine ⟨1, by omega, e1, ?_, fun j h => by have := hj j h; rw [e1] at this; exact this⟩
    rw [set0]; exact hq [_] _ _ _ rfl e1
  · refine ⟨2, by omega, e1, ?_, fun j h => by have := hj j h; rw [e1] at this; exact this⟩
    rw [set0]; exact hq [_, _] _ _ _ rfl e1
  · refine ⟨3, by omega, e1, ?_, fun j h => by have := hj j h; rw [e1] at this; exact this⟩
    rw [set0]; exact hq [_, _, _] _ _ _ rfl e1

theorem FI.step {c : List Int} {g : Int} (hg : 0 ≤ g) {k : Nat} {s : List W × List Int} (h : FI c g k s) : FI c g (k + 1) (stepF c s) := by
  obtain ⟨i, hi, e, hp, hm⟩ := h.at0
  have hl : s.1.length = 4 := by rw [h.perm.length_eq]; rfl
  have hlen := h.len
  have hsg := h.sg
  have hsum := h.sum
  obtain ⟨q, hq⟩ := h.lm
  have hh := fix_hp ltW_ord wz (l := s.1) (bump (s.1.getD 0 wz)) (by rw [hl]; exact h.hp)
  rw [hl] at hh
  have hat : (s.1.getD 0 wz).1.toNat = i := by rw [e]; simp
  have hstep : absF ((stepY c s.2 i).getD i 0) = absF (s.2.getD i 0) + 1 ∧ sgn (c.getD i 0) ((stepY c s.2 i).getD i 0) := by
    have hs := hsg i hi
    have : (stepY c s.2 i).getD i 0 = if c.getD i 0 < 0 then s.2.getD i 0 - 1 else s.2.getD i 0 + 1 := by
      simp [stepY, hlen, hi]
    rw [this]
    unfold sgn at hs ⊢
    unfold absF
    split at hs
    · rename_i hc; simp only [hc, if_true]; omega
    · rename_i hc; simp only [hc, if_false]; omega
  have hoth : ∀ j, j ≠ i → (stepY c s.2 i).getD j 0 = s.2.getD j 0 := by
    intro j hj
    simp only [stepY, List.getD_eq_getElem?_getD, List.getElem?_set]
    rw [if_neg (Ne.symm hj)]
  have hws : (wsF c s.2 g).set i (bump (s.1.getD 0 wz)) = wsF c (stepY c s.2 i) g := by
    rw [e]
    have : i = 0 ∨ i = 1 ∨ i = 2 ∨ i = 3 := by omega
    rcases this with rfl | rfl | rfl | rfl
    · simp only [wsF, bump, hstep.1, hoth 1 (by omega), hoth 2 (by omega), hoth 3 (by omega)]; rfl
    · simp only [wsF, bump, hstep.1, hoth 0 (by omega), hoth 2 (by omega), hoth 3 (by omega)]; rfl
    · simp only [wsF, bump, hstep.1, hoth 0 (by omega), hoth 1 (by omega), hoth 3 (by omega)]; rfl
    · simp only [wsF, bump, hstep.1, hoth 0 (by omega), hoth 1 (by omega), hoth 2 (by omega)]; rfl
  have e2 : stepF c s = (fixL ltW wz (s.1.set 0 (bump (s.1.getD 0 wz))), stepY c s.2 i) := by unfold stepF; rw [hat]
  rw [e2]
  refine ⟨?_, hh, by simp [stepY, hlen], fun j hj => ?_, ?_, fallF (absF (c.getD i 0)) (absF (s.2.getD i 0)) g, fun j hj => ?_⟩
  · rw [← hws]
    exact (downL_perm ltW wz _ _ _ 0 (Nat.le_refl _)).trans hp
  · by_cases ej : j = i
    · subst ej; exact hstep.2
    · simp only [hoth j ej]; exact hsg j hj
  · have : i = 0 ∨ i = 1 ∨ i = 2 ∨ i = 3 := by omega
    rcases this with rfl | rfl | rfl | rfl
    · simp only [hstep.1, hoth 1 (by omega), hoth 2 (by omega), hoth 3 (by omega)]; omega
    · simp only [hstep.1, hoth 0 (by omega), hoth 2 (by omega), hoth 3 (by omega)]; omega
    · simp only [hstep.1, hoth 0 (by omega), hoth 1 (by omega), hoth 3 (by omega)]; omega
    · simp only [hstep.1, hoth 0 (by omega), hoth 1 (by omega), hoth 2 (by omega)]; omega
  · by_cases ej : j = i
    · subst ej
      simp only [hstep.1]
      refine ⟨fall_anti _ _ _ hg, fun _ => ?_⟩
      rw [Int.add_sub_cancel]; exact Int.le_refl _
    · simp only [hoth j ej]
      exact ⟨hm j hj, fun h1 => Int.le_trans (hq i hi).1 ((hq j hj).2 h1)⟩

theorem push4 (c : List Int) (g : Int) : (pushTo c g 4).Perm (wsF c [0, 0, 0, 0] g) ∧ Hp ltW wz (pushTo c g 4) 4 ∧ (pushTo c g 4).length = 4 := by
  have len : ∀ k, (pushTo c g k).length = k := by
    intro k
    induction k with
    | zero => rfl
    | succ k ih => rw [pushTo, pushL_len, ih]
  have hpp : ∀ k, Hp ltW wz (pushTo c g k) k := by
    intro k
    induction k with
    | zero => intro j _ h; omega
    | succ k ih =>
      rw [pushTo]
      have := push_hp ltW_ord wz ((k : Int), absF (c.getD k 0), 0, g) (l := pushTo c g k) (by rw [len]; exact ih)
      rw [len] at this; exact this
  refine ⟨?_, hpp 4, len 4⟩
  have p : ∀ (k : Nat) (l : List W), (pushTo c g k).Perm l → (pushTo c g (k + 1)).Perm (l ++ [((k : Int), absF (c.getD k 0), 0, g)]) := fun k l h => (pushL_perm ltW wz _ _).trans (h.append_right _)
  exact p 3 _ (p 2 _ (p 1 _ (p 0 [] (List.Perm.refl _))))

theorem FI.init (c : List Int) (g : Int) : FI c g 0 (pushTo c g 4, [0, 0, 0, 0]) := by
  obtain ⟨h1, h2, h3⟩ := push4 c g
  have h0 : ∀ i, i < 4 → ([0, 0, 0, 0] : List Int).getD i 0 = 0 := by
    intro i hi
    have : i = 0 ∨ i = 1 ∨ i = 2 ∨ i = 3 := by omega
    rcases this with rfl | rfl | rfl | rfl <;> rfl
  refine ⟨h1, h2, rfl, fun i hi => ?_, rfl, max (max (fallF (absF (c.getD 0 0)) 0 g) (fallF (absF (c.getD 1 0)) 0 g)) (max (fallF (absF (c.getD 2 0)) 0 g) (fallF (absF (c.getD 3 0)) 0 g)), fun i hi => ?_⟩
  · simp only [h0 i hi, sgn]; split <;> omega
  · simp only [h0 i hi]
    have e0 : absF 0 = 0 := by decide
    rw [e0]
    refine ⟨?_, fun h => by omega⟩
    have : i = 0 ∨ i = 1 ∨ i = 2 ∨ i = 3 := by omega
    rcases this with rfl | rfl | rfl | rfl <;> omega

theorem FI.iter (c : List Int) {g : Int} (hg : 0 ≤ g) : ∀ k, FI c g k (iterF c (pushTo c g 4, [0, 0, 0, 0]) k)
  | 0 => FI.init c g
  | k + 1 => (FI.iter c hg k).step hg

theorem lam_line {s n g q : Int} (hg : 0 ≤ g) (hn : 0 ≤ n) (h : lam s n g q) : ∀ m : Nat, absF (s - n * g) - q * ((m : Int) - n) ≤ absF (s - m * g) := by
  have up : ∀ d : Nat, absF (s - n * g) - q * (d : Int) ≤ absF (s - (n + d) * g) ∧ fallF s (n + d) g ≤ q := by
    intro d
    induction d with
    | zero => simp; exact h.1
    | succ d ih =>
      have e : n + ((d + 1 : Nat) : Int) = n + d + 1 := by omega
      rw [e]
      have h2 := fall_anti s (n + d) g hg
      refine ⟨?_, by omega⟩
      have h3 := ih.2
      unfold fallF at h3
      have e4 : q * ((d + 1 : Nat) : Int) = q * (d : Int) + q := by
        rw [show ((d + 1 : Nat) : Int) = (d : Int) + 1 by omega, Int.mul_add, Int.mul_one]
      rw [e4]; omega
  have dn : ∀ d : Nat, (d : Int) ≤ n → absF (s - n * g) + q * (d : Int) ≤ absF (s - (n - d) * g) ∧ ((d : Int) + 1 ≤ n → q ≤ fallF s (n - d - 1) g) := by
    intro d
    induction d with
    | zero => intro _; simp; intro h1; exact h.2 (by omega)
    | succ d ih =>
      intro hd
      obtain ⟨i1, i2⟩ := ih (by omega)
      have h3 := i2 (by omega)
      have e : n - ((d + 1 : Nat) : Int) = n - d - 1 := by omega
      rw [e]
      refine ⟨?_, fun h4 => ?_⟩
      · unfold fallF at h3
        have e4 : q * ((d + 1 : Nat) : Int) = q * (d : Int) + q := by
          rw [show ((d + 1 : Nat) : Int) = (d : Int) + 1 by omega, Int.mul_add, Int.mul_one]
        rw [Int.sub_add_cancel] at h3
        rw [e4]; omega
      · have := fall_anti s (n - d - 1 - 1) g hg
        rw [Int.sub_add_cancel] at this
        omega
  intro m
  rcases Int.le_total n m with h1 | h1
  · obtain ⟨d, hd⟩ := Int.eq_ofNat_of_zero_le (show 0 ≤ (m : Int) - n by omega)
    have := (up d).1
    rw [hd, show (m : Int) = n + d by omega]; exact this
  · obtain ⟨d, hd⟩ := Int.eq_ofNat_of_zero_le (show 0 ≤ n - (m : Int) by omega)
    have := (dn d (by omega)).1
    rw [show (m : Int) - n = -(d : Int) by omega, show (m : Int) = n - d by omega, Int.mul_neg]; omega

theorem abs_far {c z g : Int} (hg : 0 ≤ g) : absF (absF c - absF z * g) ≤ absF (c - z * g) := by
  have h1 : absF z * g = z * g ∨ absF z * g = -(z * g) := by
    unfold absF
    rcases Int.le_total 0 z with h | h
    · left; rw [show max z (-z) = z by omega]
    · right; rw [show max z (-z) = -z by omega, Int.neg_mul]
  have h2 : 0 ≤ absF z * g := Int.mul_nonneg (by unfold absF; omega) hg
  generalize absF z * g = a at *
  generalize z * g = b at *
  unfold absF; omega

theorem abs_near {c z g : Int} (hg : 0 ≤ g) (h : sgn c z) : absF (c - z * g) = absF (absF c - absF z * g) := by
  unfold sgn at h
  split at h
  · have e : absF z = -z := by unfold absF; omega
    rw [e, Int.neg_mul]
    generalize z * g = b
    unfold absF; omega
  · have e : absF z = z := by unfold absF; omega
    rw [e]
    generalize z * g = b
    unfold absF; omega

/-- How far pulses are. -/
def farF (c y : List Int) (g : Int) : Int := absF (c.getD 0 0 - y.getD 0 0 * g) + absF (c.getD 1 0 - y.getD 1 0 * g) + absF (c.getD 2 0 - y.getD 2 0 * g) + absF (c.getD 3 0 - y.getD 3 0 * g)

def sumF (y : List Int) : Int := absF (y.getD 0 0) + absF (y.getD 1 0) + absF (y.getD 2 0) + absF (y.getD 3 0)

theorem find_best (c : List Int) {g : Int} (hg : 0 ≤ g) (k : Nat) (z : List Int) (hz : sumF z = k) : farF c (findF c g k) g ≤ farF c z g := by
  have h := FI.iter c hg k
  obtain ⟨q, hq⟩ := h.lm
  have hs := h.sum
  have hsg := h.sg
  show farF c (iterF c (pushTo c g 4, [0, 0, 0, 0]) k).2 g ≤ _
  generalize (iterF c (pushTo c g 4, [0, 0, 0, 0]) k).2 = y at *
  have one : ∀ i, i < 4 → absF (c.getD i 0 - y.getD i 0 * g) - q * (absF (z.getD i 0) - absF (y.getD i 0)) ≤ absF (c.getD i 0 - z.getD i 0 * g) := by
    intro i hi
    have h0 : 0 ≤ absF (z.getD i 0) := by unfold absF; omega
    obtain ⟨m, hm⟩ := Int.eq_ofNat_of_zero_le h0
    have h1 := lam_line hg (by unfold absF; omega) (hq i hi) m
    rw [← hm] at h1
    have h2 := abs_far (c := c.getD i 0) (z := z.getD i 0) hg
    have h3 := abs_near hg (hsg i hi)
    rw [h3]; omega
  have o0 := one 0 (by omega)
  have o1 := one 1 (by omega)
  have o2 := one 2 (by omega)
  have o3 := one 3 (by omega)
  unfold farF sumF at *
  rw [Int.mul_sub] at o0 o1 o2 o3
  have e : q * (absF (z.getD 0 0)) + q * (absF (z.getD 1 0)) + q * (absF (z.getD 2 0)) + q * (absF (z.getD 3 0)) = q * (absF (y.getD 0 0)) + q * (absF (y.getD 1 0)) + q * (absF (y.getD 2 0)) + q * (absF (y.getD 3 0)) := by
    rw [← Int.mul_add, ← Int.mul_add, ← Int.mul_add, ← Int.mul_add, ← Int.mul_add, ← Int.mul_add, hz, hs]
  omega

end Go.SL.S

/- Heaps: how far up and down takes. -/
namespace Go.SL.S
open Go Go.SL
theorem upL_fuel {α : Type} (lt : α → α → Bool) (d : α) : ∀ (f : Nat) (l : List α) (j : Nat), j < f → upL lt d f l j = upL lt d (j + 1) l j := by
  intro f
  induction f using Nat.strongRecOn with
  | ind f ih =>
    intro l j h
    obtain ⟨f, rfl⟩ : ∃ g, f = g + 1 := ⟨f - 1, by omega⟩
    rw [upL, upL]
    cases h1 : decide ((j - 1) / 2 = j) with
    | true => rfl
    | false =>
      cases h2 : lt (l.getD j d) (l.getD ((j - 1) / 2) d) with
      | false => rfl
      | true =>
        have h1 := of_decide_eq_false h1
        by_cases hj : j < f
        · simp only
          rw [ih f (by omega) _ ((j - 1) / 2) (by omega), ih j (by omega) _ ((j - 1) / 2) (by omega)]
        · have : f = j := by omega
          rw [this]

theorem downL_fuel {α : Type} (lt : α → α → Bool) (d : α) (n : Nat) : ∀ (f : Nat) (l : List α) (i : Nat), n - i ≤ f → downL lt d n f l i = downL lt d n (n - i) l i := by
  intro f
  induction f using Nat.strongRecOn with
  | ind f ih =>
    intro l i h
    by_cases hin : 2 * i + 1 < n
    · obtain ⟨f, rfl⟩ : ∃ g, f = g + 1 := ⟨f - 1, by omega⟩
      obtain ⟨e, he⟩ : ∃ e, n - i = e + 1 := ⟨n - i - 1, by omega⟩
      rw [he, downL, downL]
      have hc := childL_cases lt d l i n
      generalize childL lt d l i n = c at *
      cases decide (2 * i + 1 < n) with
      | false => rfl
      | true =>
        cases lt (l.getD c d) (l.getD i d) with
        | false => rfl
        | true =>
          simp only
          rw [ih f (by omega) _ c (by omega)]
          by_cases hef : e = f
          · rw [hef, ih f (by omega) _ c (by omega)]
          · rw [ih e (by omega) _ c (by omega)]
    · have stop : ∀ f, downL lt d n f l i = (l, i) := by
        intro f
        cases f with
        | zero => rfl
        | succ f => rw [downL, decide_eq_false hin]
      rw [stop, stop]
end Go.SL.S

/- Functions and what they are held to do: bound to their code. -/
namespace Go.SL.A
open Go Go.SL Go.SL.S
set_option maxRecDepth 100000
noncomputable def C128 : Ctx := ⟨Go.Proofs.Try.prog, D, G185, meth14, fun _ => []⟩
def ann128 (n : Nat) (j : Int) (l : List (Int × Int × Int × Int)) : Nat → St → Option Ann := fun _ _ => some ⟨Nat × List W, [0], [0], fun x => [(1, .v (.int .i64) (x.1 : Int))], fun x => [(1, some ⟨false, false, (.cons (.int .i64) (.cons (.int .i64) (.cons (.int .i64) (.last (.int .i64))))), x.2⟩)], fun x => x.2.length = n ∧ x.1 < n ∧ (∀ w ∈ x.2, okW w) ∧ upL ltW wz (x.1 + 1) x.2 x.1 = upL ltW wz (j.toNat + 1) l j.toNat, fun x => x.1⟩
def out128 (n : Nat) (j : Int) (l : List (Int × Int × Int × Int)) : COut := ⟨[n = l.length ∧ n ≤ 1000000, 0 ≤ j ∧ j < n, ∀ w ∈ l, okW w], .tup [], [(1, some ⟨false, false, (.cons (.int .i64) (.cons (.int .i64) (.cons (.int .i64) (.last (.int .i64))))), upL ltW wz (j.toNat + 1) l j.toNat⟩)], []⟩
def sp128 : Spec := fun args ins => match args, ins with
  | [⟨.ref .iface, .iface 135 (.ptr 0 (.ref .slice) [0])⟩, ⟨.int .i64, j⟩], [⟨false, true, .ref .slice, [.slice 1 (.cons (.int .i64) (.cons (.int .i64) (.cons (.int .i64) (.last (.int .i64))))) [] 0 n]⟩, ⟨false, false, (.cons (.int .i64) (.cons (.int .i64) (.cons (.int .i64) (.last (.int .i64))))), l⟩] => some (out128 n j l)
  | _, _ => none
def G128 := addG G185 128 sp128
def P128 (n : Nat) (j : Int) (l : List (Int × Int × Int × Int)) : Prop :=
  ∃ (x : Nat × List (Int × Int × Int × Int)), (((0 : Nat) = (0 : Nat) ∧ j = (↑(Prod.fst x) : Int) ∧ (0 : Nat) = (0 : Nat) ∧ n = n ∧ false = false ∧ l = Prod.snd x ∧ false = false) ∧ List.length (Prod.snd x) = n ∧ Prod.fst x
  < n ∧ (∀ (w : Int × Int × Int × Int), List.Mem w (Prod.snd x) → okW w) ∧ upL ltW wz (Prod.fst x + (1 : Nat)) (Prod.snd x) (Prod.fst x) = upL ltW wz (Int.toNat j + (1 : Nat)) l (Int.toNat j)) ∧ ∀ (x : Nat × List (Int × Int
  × Int × Int)), List.length (Prod.snd x) = n ∧ Prod.fst x < n ∧ (∀ (w : Int × Int × Int × Int), List.Mem w (Prod.snd x) → okW w) ∧ upL ltW wz (Prod.fst x + (1 : Nat)) (Prod.snd x) (Prod.fst x) = upL ltW wz (Int.toNat j +
  (1 : Nat)) l (Int.toNat j) → (IntKind.min IntKind.i64 ≤ (↑(Prod.fst x) : Int) ∧ (↑(Prod.fst x) : Int) ≤ IntKind.max IntKind.i64 ∧ ∀ (y : Int × Int × Int × Int), List.Mem y (Prod.snd x) → IntKind.min IntKind.i64 ≤ Prod.fst
  y ∧ Prod.fst y ≤ IntKind.max IntKind.i64 ∧ IntKind.min IntKind.i64 ≤ Prod.fst (Prod.snd y) ∧ Prod.fst (Prod.snd y) ≤ IntKind.max IntKind.i64 ∧ IntKind.min IntKind.i64 ≤ Prod.fst (Prod.snd (Prod.snd y)) ∧ Prod.fst
  (Prod.snd (Prod.snd y)) ≤ IntKind.max IntKind.i64 ∧ IntKind.min IntKind.i64 ≤ Prod.snd (Prod.snd (Prod.snd y)) ∧ Prod.snd (Prod.snd (Prod.snd y)) ≤ IntKind.max IntKind.i64) → (2 : Int) ≠ (0 : Int) ∧ bif decide
  (IntKind.wrap IntKind.i64 (Int.tdiv (IntKind.wrap IntKind.i64 ((↑(Prod.fst x) : Int) - (1 : Int))) (2 : Int)) = (↑(Prod.fst x) : Int)) then (true = false → false = true) ∧ (0 : Nat) = (0 : Nat) ∧ n = n ∧ false = false ∧
  Prod.snd x = upL ltW wz (Int.toNat j + (1 : Nat)) l (Int.toNat j) ∧ false = false else (n = List.length (Prod.snd x) ∧ (((0 : Int) ≤ (↑(Prod.fst x) : Int) ∧ (↑(Prod.fst x) : Int) < (↑n : Int)) ∧ (0 : Int) ≤ IntKind.wrap
  IntKind.i64 (Int.tdiv (IntKind.wrap IntKind.i64 ((↑(Prod.fst x) : Int) - (1 : Int))) (2 : Int)) ∧ IntKind.wrap IntKind.i64 (Int.tdiv (IntKind.wrap IntKind.i64 ((↑(Prod.fst x) : Int) - (1 : Int))) (2 : Int)) < (↑n : Int))
  ∧ okW (List.getD (Prod.snd x) (Int.toNat (↑(Prod.fst x) : Int)) wz) ∧ okW (List.getD (Prod.snd x) (Int.toNat (IntKind.wrap IntKind.i64 (Int.tdiv (IntKind.wrap IntKind.i64 ((↑(Prod.fst x) : Int) - (1 : Int))) (2 : Int))))
  wz)) ∧ bif !ltW (List.getD (Prod.snd x) (Int.toNat (↑(Prod.fst x) : Int)) wz) (List.getD (Prod.snd x) (Int.toNat (IntKind.wrap IntKind.i64 (Int.tdiv (IntKind.wrap IntKind.i64 ((↑(Prod.fst x) : Int) - (1 : Int))) (2 :
  Int)))) wz) then (0 : Nat) = (0 : Nat) ∧ n = n ∧ false = false ∧ Prod.snd x = upL ltW wz (Int.toNat j + (1 : Nat)) l (Int.toNat j) ∧ false = false else (n = List.length (Prod.snd x) ∧ ((0 : Int) ≤ IntKind.wrap IntKind.i64
  (Int.tdiv (IntKind.wrap IntKind.i64 ((↑(Prod.fst x) : Int) - (1 : Int))) (2 : Int)) ∧ IntKind.wrap IntKind.i64 (Int.tdiv (IntKind.wrap IntKind.i64 ((↑(Prod.fst x) : Int) - (1 : Int))) (2 : Int)) < (↑n : Int)) ∧ (0 : Int)
  ≤ (↑(Prod.fst x) : Int) ∧ (↑(Prod.fst x) : Int) < (↑n : Int)) ∧ ∃ (y : Nat × List (Int × Int × Int × Int)), ((0 : Nat) = (0 : Nat) ∧ IntKind.wrap IntKind.i64 (Int.tdiv (IntKind.wrap IntKind.i64 ((↑(Prod.fst x) : Int) - (1
  : Int))) (2 : Int)) = (↑(Prod.fst y) : Int) ∧ (0 : Nat) = (0 : Nat) ∧ n = n ∧ false = false ∧ swapL wz (Prod.snd x) (Int.toNat (IntKind.wrap IntKind.i64 (Int.tdiv (IntKind.wrap IntKind.i64 ((↑(Prod.fst x) : Int) - (1 :
  Int))) (2 : Int)))) (Int.toNat (↑(Prod.fst x) : Int)) = Prod.snd y ∧ false = false) ∧ (List.length (Prod.snd y) = n ∧ Prod.fst y < n ∧ (∀ (w : Int × Int × Int × Int), List.Mem w (Prod.snd y) → okW w) ∧ upL ltW wz
  (Prod.fst y + (1 : Nat)) (Prod.snd y) (Prod.fst y) = upL ltW wz (Int.toNat j + (1 : Nat)) l (Int.toNat j)) ∧ Prod.fst y < Prod.fst x
theorem vc128 (n : Nat) (j : Int) (l : List (Int × Int × Int × Int)) : P128 n j l = vcFun C128 (ann128 n j l) Go.Proofs.Try.f128 [⟨.ref .iface, .iface 135 (.ptr 0 (.ref .slice) [0])⟩, ⟨.int .i64, j⟩] [⟨false, true, .ref .slice, [.slice 1 (.cons (.int .i64) (.cons (.int .i64) (.cons (.int .i64) (.last (.int .i64))))) [] 0 n]⟩, ⟨false, false, (.cons (.int .i64) (.cons (.int .i64) (.cons (.int .i64) (.last (.int .i64))))), l⟩] (out128 n j l) := by kernel_rfl

noncomputable def C129 : Ctx := ⟨Go.Proofs.Try.prog, D, G128, meth14, fun _ => []⟩
def ann129 (n : Nat) (i m : Int) (l : List (Int × Int × Int × Int)) : Nat → St → Option Ann := fun _ _ => some ⟨Nat × List W, [0, 1, 2], [0], fun x => [(7, .v (.int .i64) (x.1 : Int))], fun x => [(1, some ⟨false, false, (.cons (.int .i64) (.cons (.int .i64) (.cons (.int .i64) (.last (.int .i64))))), x.2⟩)], fun x => x.2.length = n ∧ x.1 ≤ 1000000 ∧ (∀ w ∈ x.2, okW w) ∧ downL ltW wz m.toNat (m.toNat - x.1) x.2 x.1 = downL ltW wz m.toNat (m.toNat - i.toNat) l i.toNat, fun x => m.toNat - x.1⟩
def out129 (n : Nat) (i m : Int) (l : List (Int × Int × Int × Int)) : COut := ⟨[n = l.length ∧ n ≤ 1000000, (0 ≤ i ∧ i ≤ 1000000) ∧ 0 ≤ m ∧ m ≤ n, ∀ w ∈ l, okW w], .v .bool (decide (i < ((downL ltW wz m.toNat (m.toNat - i.toNat) l i.toNat).2 : Nat))), [(1, some ⟨false, false, (.cons (.int .i64) (.cons (.int .i64) (.cons (.int .i64) (.last (.int .i64))))), (downL ltW wz m.toNat (m.toNat - i.toNat) l i.toNat).1⟩)], []⟩
def sp129 : Spec := fun args ins => match args, ins with
  | [⟨.ref .iface, .iface 135 (.ptr 0 (.ref .slice) [0])⟩, ⟨.int .i64, i⟩, ⟨.int .i64, m⟩], [⟨false, true, .ref .slice, [.slice 1 (.cons (.int .i64) (.cons (.int .i64) (.cons (.int .i64) (.last (.int .i64))))) [] 0 n]⟩, ⟨false, false, (.cons (.int .i64) (.cons (.int .i64) (.cons (.int .i64) (.last (.int .i64))))), l⟩] => some (out129 n i m l)
  | _, _ => none
def G129 := addG G128 129 sp129
def P129 (n : Nat) (i m : Int) (l : List (Int × Int × Int × Int)) : Prop :=
  ∃ (x : Nat × List (Int × Int × Int × Int)), (((0 : Nat) = (0 : Nat) ∧ i = i ∧ m = m ∧ i = (↑(Prod.fst x) : Int) ∧ (0 : Nat) = (0 : Nat) ∧ n = n ∧ false = false ∧ l = Prod.snd x ∧ false = false) ∧ List.length (Prod.snd x)
  = n ∧ Prod.fst x ≤ (1000000 : Nat) ∧ (∀ (w : Int × Int × Int × Int), List.Mem w (Prod.snd x) → okW w) ∧ downL ltW wz (Int.toNat m) (Int.toNat m - Prod.fst x) (Prod.snd x) (Prod.fst x) = downL ltW wz (Int.toNat m)
  (Int.toNat m - Int.toNat i) l (Int.toNat i)) ∧ ∀ (x : Nat × List (Int × Int × Int × Int)), List.length (Prod.snd x) = n ∧ Prod.fst x ≤ (1000000 : Nat) ∧ (∀ (w : Int × Int × Int × Int), List.Mem w (Prod.snd x) → okW w) ∧
  downL ltW wz (Int.toNat m) (Int.toNat m - Prod.fst x) (Prod.snd x) (Prod.fst x) = downL ltW wz (Int.toNat m) (Int.toNat m - Int.toNat i) l (Int.toNat i) → (IntKind.min IntKind.i64 ≤ (↑(Prod.fst x) : Int) ∧ (↑(Prod.fst x)
  : Int) ≤ IntKind.max IntKind.i64 ∧ ∀ (y : Int × Int × Int × Int), List.Mem y (Prod.snd x) → IntKind.min IntKind.i64 ≤ Prod.fst y ∧ Prod.fst y ≤ IntKind.max IntKind.i64 ∧ IntKind.min IntKind.i64 ≤ Prod.fst (Prod.snd y) ∧
  Prod.fst (Prod.snd y) ≤ IntKind.max IntKind.i64 ∧ IntKind.min IntKind.i64 ≤ Prod.fst (Prod.snd (Prod.snd y)) ∧ Prod.fst (Prod.snd (Prod.snd y)) ≤ IntKind.max IntKind.i64 ∧ IntKind.min IntKind.i64 ≤ Prod.snd (Prod.snd
  (Prod.snd y)) ∧ Prod.snd (Prod.snd (Prod.snd y)) ≤ IntKind.max IntKind.i64) → ∀ (b : Bool), decide (m ≤ IntKind.wrap IntKind.i64 (IntKind.wrap IntKind.i64 ((2 : Int) * (↑(Prod.fst x) : Int)) + (1 : Int))) = b → (((!b) =
  true → (!b) = true) ∧ (b = false → (!b) = true)) ∧ bif bif b then true else decide (IntKind.wrap IntKind.i64 (IntKind.wrap IntKind.i64 ((2 : Int) * (↑(Prod.fst x) : Int)) + (1 : Int)) < (0 : Int)) then decide (i <
  (↑(Prod.fst x) : Int)) = decide (i < (↑(Prod.snd (downL ltW wz (Int.toNat m) (Int.toNat m - Int.toNat i) l (Int.toNat i))) : Int)) ∧ (0 : Nat) = (0 : Nat) ∧ n = n ∧ false = false ∧ Prod.snd x = Prod.fst (downL ltW wz
  (Int.toNat m) (Int.toNat m - Int.toNat i) l (Int.toNat i)) ∧ false = false else bif decide (IntKind.wrap IntKind.i64 (IntKind.wrap IntKind.i64 (IntKind.wrap IntKind.i64 ((2 : Int) * (↑(Prod.fst x) : Int)) + (1 : Int)) +
  (1 : Int)) < m) then (n = List.length (Prod.snd x) ∧ (((0 : Int) ≤ IntKind.wrap IntKind.i64 (IntKind.wrap IntKind.i64 (IntKind.wrap IntKind.i64 ((2 : Int) * (↑(Prod.fst x) : Int)) + (1 : Int)) + (1 : Int)) ∧ IntKind.wrap
  IntKind.i64 (IntKind.wrap IntKind.i64 (IntKind.wrap IntKind.i64 ((2 : Int) * (↑(Prod.fst x) : Int)) + (1 : Int)) + (1 : Int)) < (↑n : Int)) ∧ (0 : Int) ≤ IntKind.wrap IntKind.i64 (IntKind.wrap IntKind.i64 ((2 : Int) *
  (↑(Prod.fst x) : Int)) + (1 : Int)) ∧ IntKind.wrap IntKind.i64 (IntKind.wrap IntKind.i64 ((2 : Int) * (↑(Prod.fst x) : Int)) + (1 : Int)) < (↑n : Int)) ∧ okW (List.getD (Prod.snd x) (Int.toNat (IntKind.wrap IntKind.i64
  (IntKind.wrap IntKind.i64 (IntKind.wrap IntKind.i64 ((2 : Int) * (↑(Prod.fst x) : Int)) + (1 : Int)) + (1 : Int)))) wz) ∧ okW (List.getD (Prod.snd x) (Int.toNat (IntKind.wrap IntKind.i64 (IntKind.wrap IntKind.i64 ((2 :
  Int) * (↑(Prod.fst x) : Int)) + (1 : Int)))) wz)) ∧ bif ltW (List.getD (Prod.snd x) (Int.toNat (IntKind.wrap IntKind.i64 (IntKind.wrap IntKind.i64 (IntKind.wrap IntKind.i64 ((2 : Int) * (↑(Prod.fst x) : Int)) + (1 : Int))
  + (1 : Int)))) wz) (List.getD (Prod.snd x) (Int.toNat (IntKind.wrap IntKind.i64 (IntKind.wrap IntKind.i64 ((2 : Int) * (↑(Prod.fst x) : Int)) + (1 : Int)))) wz) then (n = List.length (Prod.snd x) ∧ (((0 : Int) ≤
  IntKind.wrap IntKind.i64 (IntKind.wrap IntKind.i64 (IntKind.wrap IntKind.i64 ((2 : Int) * (↑(Prod.fst x) : Int)) + (1 : Int)) + (1 : Int)) ∧ IntKind.wrap IntKind.i64 (IntKind.wrap IntKind.i64 (IntKind.wrap IntKind.i64 ((2
  : Int) * (↑(Prod.fst x) : Int)) + (1 : Int)) + (1 : Int)) < (↑n : Int)) ∧ (0 : Int) ≤ (↑(Prod.fst x) : Int) ∧ (↑(Prod.fst x) : Int) < (↑n : Int)) ∧ okW (List.getD (Prod.snd x) (Int.toNat (IntKind.wrap IntKind.i64
  (IntKind.wrap IntKind.i64 (IntKind.wrap IntKind.i64 ((2 : Int) * (↑(Prod.fst x) : Int)) + (1 : Int)) + (1 : Int)))) wz) ∧ okW (List.getD (Prod.snd x) (Int.toNat (↑(Prod.fst x) : Int)) wz)) ∧ bif !ltW (List.getD (Prod.snd
  x) (Int.toNat (IntKind.wrap IntKind.i64 (IntKind.wrap IntKind.i64 (IntKind.wrap IntKind.i64 ((2 : Int) * (↑(Prod.fst x) : Int)) + (1 : Int)) + (1 : Int)))) wz) (List.getD (Prod.snd x) (Int.toNat (↑(Prod.fst x) : Int)) wz)
  then decide (i < (↑(Prod.fst x) : Int)) = decide (i < (↑(Prod.snd (downL ltW wz (Int.toNat m) (Int.toNat m - Int.toNat i) l (Int.toNat i))) : Int)) ∧ (0 : Nat) = (0 : Nat) ∧ n = n ∧ false = false ∧ Prod.snd x = Prod.fst
  (downL ltW wz (Int.toNat m) (Int.toNat m - Int.toNat i) l (Int.toNat i)) ∧ false = false else (n = List.length (Prod.snd x) ∧ ((0 : Int) ≤ (↑(Prod.fst x) : Int) ∧ (↑(Prod.fst x) : Int) < (↑n : Int)) ∧ (0 : Int) ≤
  IntKind.wrap IntKind.i64 (IntKind.wrap IntKind.i64 (IntKind.wrap IntKind.i64 ((2 : Int) * (↑(Prod.fst x) : Int)) + (1 : Int)) + (1 : Int)) ∧ IntKind.wrap IntKind.i64 (IntKind.wrap IntKind.i64 (IntKind.wrap IntKind.i64 ((2
  : Int) * (↑(Prod.fst x) : Int)) + (1 : Int)) + (1 : Int)) < (↑n : Int)) ∧ ∃ (y : Nat × List (Int × Int × Int × Int)), ((0 : Nat) = (0 : Nat) ∧ i = i ∧ m = m ∧ IntKind.wrap IntKind.i64 (IntKind.wrap IntKind.i64
  (IntKind.wrap IntKind.i64 ((2 : Int) * (↑(Prod.fst x) : Int)) + (1 : Int)) + (1 : Int)) = (↑(Prod.fst y) : Int) ∧ (0 : Nat) = (0 : Nat) ∧ n = n ∧ false = false ∧ swapL wz (Prod.snd x) (Int.toNat (↑(Prod.fst x) : Int))
  (Int.toNat (IntKind.wrap IntKind.i64 (IntKind.wrap IntKind.i64 (IntKind.wrap IntKind.i64 ((2 : Int) * (↑(Prod.fst x) : Int)) + (1 : Int)) + (1 : Int)))) = Prod.snd y ∧ false = false) ∧ (List.length (Prod.snd y) = n ∧
  Prod.fst y ≤ (1000000 : Nat) ∧ (∀ (w : Int × Int × Int × Int), List.Mem w (Prod.snd y) → okW w) ∧ downL ltW wz (Int.toNat m) (Int.toNat m - Prod.fst y) (Prod.snd y) (Prod.fst y) = downL ltW wz (Int.toNat m) (Int.toNat m -
  Int.toNat i) l (Int.toNat i)) ∧ Int.toNat m - Prod.fst y < Int.toNat m - Prod.fst x else (n = List.length (Prod.snd x) ∧ (((0 : Int) ≤ IntKind.wrap IntKind.i64 (IntKind.wrap IntKind.i64 ((2 : Int) * (↑(Prod.fst x) : Int))
  + (1 : Int)) ∧ IntKind.wrap IntKind.i64 (IntKind.wrap IntKind.i64 ((2 : Int) * (↑(Prod.fst x) : Int)) + (1 : Int)) < (↑n : Int)) ∧ (0 : Int) ≤ (↑(Prod.fst x) : Int) ∧ (↑(Prod.fst x) : Int) < (↑n : Int)) ∧ okW (List.getD
  (Prod.snd x) (Int.toNat (IntKind.wrap IntKind.i64 (IntKind.wrap IntKind.i64 ((2 : Int) * (↑(Prod.fst x) : Int)) + (1 : Int)))) wz) ∧ okW (List.getD (Prod.snd x) (Int.toNat (↑(Prod.fst x) : Int)) wz)) ∧ bif !ltW (List.getD
  (Prod.snd x) (Int.toNat (IntKind.wrap IntKind.i64 (IntKind.wrap IntKind.i64 ((2 : Int) * (↑(Prod.fst x) : Int)) + (1 : Int)))) wz) (List.getD (Prod.snd x) (Int.toNat (↑(Prod.fst x) : Int)) wz) then decide (i < (↑(Prod.fst
  x) : Int)) = decide (i < (↑(Prod.snd (downL ltW wz (Int.toNat m) (Int.toNat m - Int.toNat i) l (Int.toNat i))) : Int)) ∧ (0 : Nat) = (0 : Nat) ∧ n = n ∧ false = false ∧ Prod.snd x = Prod.fst (downL ltW wz (Int.toNat m)
  (Int.toNat m - Int.toNat i) l (Int.toNat i)) ∧ false = false else (n = List.length (Prod.snd x) ∧ ((0 : Int) ≤ (↑(Prod.fst x) : Int) ∧ (↑(Prod.fst x) : Int) < (↑n : Int)) ∧ (0 : Int) ≤ IntKind.wrap IntKind.i64
  (IntKind.wrap IntKind.i64 ((2 : Int) * (↑(Prod.fst x) : Int)) + (1 : Int)) ∧ IntKind.wrap IntKind.i64 (IntKind.wrap IntKind.i64 ((2 : Int) * (↑(Prod.fst x) : Int)) + (1 : Int)) < (↑n : Int)) ∧ ∃ (y : Nat × List (Int × Int
  × Int × Int)), ((0 : Nat) = (0 : Nat) ∧ i = i ∧ m = m ∧ IntKind.wrap IntKind.i64 (IntKind.wrap IntKind.i64 ((2 : Int) * (↑(Prod.fst x) : Int)) + (1 : Int)) = (↑(Prod.fst y) : Int) ∧ (0 : Nat) = (0 : Nat) ∧ n = n ∧ false =
  false ∧ swapL wz (Prod.snd x) (Int.toNat (↑(Prod.fst x) : Int)) (Int.toNat (IntKind.wrap IntKind.i64 (IntKind.wrap IntKind.i64 ((2 : Int) * (↑(Prod.fst x) : Int)) + (1 : Int)))) = Prod.snd y ∧ false = false) ∧
  (List.length (Prod.snd y) = n ∧ Prod.fst y ≤ (1000000 : Nat) ∧ (∀ (w : Int × Int × Int × Int), List.Mem w (Prod.snd y) → okW w) ∧ downL ltW wz (Int.toNat m) (Int.toNat m - Prod.fst y) (Prod.snd y) (Prod.fst y) = downL ltW
  wz (Int.toNat m) (Int.toNat m - Int.toNat i) l (Int.toNat i)) ∧ Int.toNat m - Prod.fst y < Int.toNat m - Prod.fst x else (false = true → false = true) ∧ (n = List.length (Prod.snd x) ∧ (((0 : Int) ≤ IntKind.wrap
  IntKind.i64 (IntKind.wrap IntKind.i64 ((2 : Int) * (↑(Prod.fst x) : Int)) + (1 : Int)) ∧ IntKind.wrap IntKind.i64 (IntKind.wrap IntKind.i64 ((2 : Int) * (↑(Prod.fst x) : Int)) + (1 : Int)) < (↑n : Int)) ∧ (0 : Int) ≤
  (↑(Prod.fst x) : Int) ∧ (↑(Prod.fst x) : Int) < (↑n : Int)) ∧ okW (List.getD (Prod.snd x) (Int.toNat (IntKind.wrap IntKind.i64 (IntKind.wrap IntKind.i64 ((2 : Int) * (↑(Prod.fst x) : Int)) + (1 : Int)))) wz) ∧ okW
  (List.getD (Prod.snd x) (Int.toNat (↑(Prod.fst x) : Int)) wz)) ∧ bif !ltW (List.getD (Prod.snd x) (Int.toNat (IntKind.wrap IntKind.i64 (IntKind.wrap IntKind.i64 ((2 : Int) * (↑(Prod.fst x) : Int)) + (1 : Int)))) wz)
  (List.getD (Prod.snd x) (Int.toNat (↑(Prod.fst x) : Int)) wz) then decide (i < (↑(Prod.fst x) : Int)) = decide (i < (↑(Prod.snd (downL ltW wz (Int.toNat m) (Int.toNat m - Int.toNat i) l (Int.toNat i))) : Int)) ∧ (0 : Nat)
  = (0 : Nat) ∧ n = n ∧ false = false ∧ Prod.snd x = Prod.fst (downL ltW wz (Int.toNat m) (Int.toNat m - Int.toNat i) l (Int.toNat i)) ∧ false = false else (n = List.length (Prod.snd x) ∧ ((0 : Int) ≤ (↑(Prod.fst x) : Int)
  ∧ (↑(Prod.fst x) : Int) < (↑n : Int)) ∧ (0 : Int) ≤ IntKind.wrap IntKind.i64 (IntKind.wrap IntKind.i64 ((2 : Int) * (↑(Prod.fst x) : Int)) + (1 : Int)) ∧ IntKind.wrap IntKind.i64 (IntKind.wrap IntKind.i64 ((2 : Int) *
  (↑(Prod.fst x) : Int)) + (1 : Int)) < (↑n : Int)) ∧ ∃ (y : Nat × List (Int × Int × Int × Int)), ((0 : Nat) = (0 : Nat) ∧ i = i ∧ m = m ∧ IntKind.wrap IntKind.i64 (IntKind.wrap IntKind.i64 ((2 : Int) * (↑(Prod.fst x) :
  Int)) + (1 : Int)) = (↑(Prod.fst y) : Int) ∧ (0 : Nat) = (0 : Nat) ∧ n = n ∧ false = false ∧ swapL wz (Prod.snd x) (Int.toNat (↑(Prod.fst x) : Int)) (Int.toNat (IntKind.wrap IntKind.i64 (IntKind.wrap IntKind.i64 ((2 :
  Int) * (↑(Prod.fst x) : Int)) + (1 : Int)))) = Prod.snd y ∧ false = false) ∧ (List.length (Prod.snd y) = n ∧ Prod.fst y ≤ (1000000 : Nat) ∧ (∀ (w : Int × Int × Int × Int), List.Mem w (Prod.snd y) → okW w) ∧ downL ltW wz
  (Int.toNat m) (Int.toNat m - Prod.fst y) (Prod.snd y) (Prod.fst y) = downL ltW wz (Int.toNat m) (Int.toNat m - Int.toNat i) l (Int.toNat i)) ∧ Int.toNat m - Prod.fst y < Int.toNat m - Prod.fst x
theorem vc129 (n : Nat) (i m : Int) (l : List (Int × Int × Int × Int)) : P129 n i m l = vcFun C129 (ann129 n i m l) Go.Proofs.Try.f129 [⟨.ref .iface, .iface 135 (.ptr 0 (.ref .slice) [0])⟩, ⟨.int .i64, i⟩, ⟨.int .i64, m⟩] [⟨false, true, .ref .slice, [.slice 1 (.cons (.int .i64) (.cons (.int .i64) (.cons (.int .i64) (.last (.int .i64))))) [] 0 n]⟩, ⟨false, false, (.cons (.int .i64) (.cons (.int .i64) (.cons (.int .i64) (.last (.int .i64))))), l⟩] (out129 n i m l) := by kernel_rfl

noncomputable def C94 : Ctx := ⟨Go.Proofs.Try.prog, D, G129, meth14, fun _ => []⟩
def ann94 (_n : Nat) (_l : List (Int × Int × Int × Int)) (_a _s _c _g : Int) : Nat → St → Option Ann := fun _ _ => none
def out94 (n : Nat) (l : List (Int × Int × Int × Int)) (a s c g : Int) : COut := ⟨[n = l.length ∧ n ≤ 1000, okW (a, s, c, g), ∀ w ∈ l, okW w], .tup [], [(0, some ⟨false, true, .ref .slice, [.slice 2 (.cons (.int .i64) (.cons (.int .i64) (.cons (.int .i64) (.last (.int .i64))))) [] 0 (n + 1)]⟩), (1, none)], [⟨false, false, (.cons (.int .i64) (.cons (.int .i64) (.cons (.int .i64) (.last (.int .i64))))), pushL ltW wz l (a, s, c, g)⟩]⟩
def sp94 : Spec := fun args ins => match args, ins with
  | [⟨.ref .iface, .iface 135 (.ptr 0 (.ref .slice) [0])⟩, ⟨.ref .iface, .iface 140 (.agg [.int .i64 a, .int .i64 s, .int .i64 c, .int .i64 g])⟩], [⟨false, true, .ref .slice, [.slice 1 (.cons (.int .i64) (.cons (.int .i64) (.cons (.int .i64) (.last (.int .i64))))) [] 0 n]⟩, ⟨false, false, (.cons (.int .i64) (.cons (.int .i64) (.cons (.int .i64) (.last (.int .i64))))), l⟩] => some (out94 n l a s c g)
  | _, _ => none
def G94 := addG G129 94 sp94
def P94 (n : Nat) (l : List (Int × Int × Int × Int)) (a s c g : Int) : Prop :=
  (n = List.length l ∧ n ≤ (1000000 : Nat)) ∧ ((n + (1 : Nat) = List.length (l ++ [(a, s, c, g)]) ∧ n + (1 : Nat) ≤ (1000000 : Nat)) ∧ ((0 : Int) ≤ IntKind.wrap IntKind.i64 ((↑(n + (1 : Nat)) : Int) - (1 : Int)) ∧
  IntKind.wrap IntKind.i64 ((↑(n + (1 : Nat)) : Int) - (1 : Int)) < (↑(n + (1 : Nat)) : Int)) ∧ ∀ (w : Int × Int × Int × Int), List.Mem w (l ++ [(a, s, c, g)]) → okW w) ∧ (0 : Nat) = (0 : Nat) ∧ n + (1 : Nat) = n + (1 :
  Nat) ∧ false = false ∧ upL ltW wz (Int.toNat (IntKind.wrap IntKind.i64 ((↑(n + (1 : Nat)) : Int) - (1 : Int))) + (1 : Nat)) (l ++ [(a, s, c, g)]) (Int.toNat (IntKind.wrap IntKind.i64 ((↑(n + (1 : Nat)) : Int) - (1 :
  Int)))) = pushL ltW wz l (a, s, c, g) ∧ false = false
theorem vc94 (n : Nat) (l : List (Int × Int × Int × Int)) (a s c g : Int) : P94 n l a s c g = vcFun C94 (ann94 n l a s c g) Go.Proofs.Try.f94 [⟨.ref .iface, .iface 135 (.ptr 0 (.ref .slice) [0])⟩, ⟨.ref .iface, .iface 140 (.agg [.int .i64 a, .int .i64 s, .int .i64 c, .int .i64 g])⟩] [⟨false, true, .ref .slice, [.slice 1 (.cons (.int .i64) (.cons (.int .i64) (.cons (.int .i64) (.last (.int .i64))))) [] 0 n]⟩, ⟨false, false, (.cons (.int .i64) (.cons (.int .i64) (.cons (.int .i64) (.last (.int .i64))))), l⟩] (out94 n l a s c g) := by kernel_rfl

noncomputable def C96 : Ctx := ⟨Go.Proofs.Try.prog, D, G94, meth14, fun _ => []⟩
def ann96 (_n : Nat) (_i : Int) (_l : List (Int × Int × Int × Int)) : Nat → St → Option Ann := fun _ _ => none
def out96 (n : Nat) (i : Int) (l : List (Int × Int × Int × Int)) : COut := ⟨[n = l.length ∧ n ≤ 1000000 ∧ i = 0 ∧ 0 < n, ∀ w ∈ l, okW w], .tup [], [(1, some ⟨false, false, (.cons (.int .i64) (.cons (.int .i64) (.cons (.int .i64) (.last (.int .i64))))), fixL ltW wz l⟩)], []⟩
def sp96 : Spec := fun args ins => match args, ins with
  | [⟨.ref .iface, .iface 135 (.ptr 0 (.ref .slice) [0])⟩, ⟨.int .i64, i⟩], [⟨false, true, .ref .slice, [.slice 1 (.cons (.int .i64) (.cons (.int .i64) (.cons (.int .i64) (.last (.int .i64))))) [] 0 n]⟩, ⟨false, false, (.cons (.int .i64) (.cons (.int .i64) (.cons (.int .i64) (.last (.int .i64))))), l⟩] => some (out96 n i l)
  | _, _ => none
def G96 := addG G94 96 sp96
def P96 (n : Nat) (i : Int) (l : List (Int × Int × Int × Int)) : Prop :=
  ((n = List.length l ∧ n ≤ (1000000 : Nat)) ∧ (((0 : Int) ≤ i ∧ i ≤ (1000000 : Int)) ∧ (0 : Int) ≤ (↑n : Int) ∧ (↑n : Int) ≤ (↑n : Int)) ∧ ∀ (w : Int × Int × Int × Int), List.Mem w l → okW w) ∧ bif !decide (i < (↑(Prod.snd
  (downL ltW wz (Int.toNat (↑n : Int)) (Int.toNat (↑n : Int) - Int.toNat i) l (Int.toNat i))) : Int)) then ((n = List.length (Prod.fst (downL ltW wz (Int.toNat (↑n : Int)) (Int.toNat (↑n : Int) - Int.toNat i) l (Int.toNat
  i))) ∧ n ≤ (1000000 : Nat)) ∧ ((0 : Int) ≤ i ∧ i < (↑n : Int)) ∧ ∀ (w : Int × Int × Int × Int), List.Mem w (Prod.fst (downL ltW wz (Int.toNat (↑n : Int)) (Int.toNat (↑n : Int) - Int.toNat i) l (Int.toNat i))) → okW w) ∧
  (0 : Nat) = (0 : Nat) ∧ n = n ∧ false = false ∧ upL ltW wz (Int.toNat i + (1 : Nat)) (Prod.fst (downL ltW wz (Int.toNat (↑n : Int)) (Int.toNat (↑n : Int) - Int.toNat i) l (Int.toNat i))) (Int.toNat i) = fixL ltW wz l ∧
  false = false else (0 : Nat) = (0 : Nat) ∧ n = n ∧ false = false ∧ Prod.fst (downL ltW wz (Int.toNat (↑n : Int)) (Int.toNat (↑n : Int) - Int.toNat i) l (Int.toNat i)) = fixL ltW wz l ∧ false = false
theorem vc96 (n : Nat) (i : Int) (l : List (Int × Int × Int × Int)) : P96 n i l = vcFun C96 (ann96 n i l) Go.Proofs.Try.f96 [⟨.ref .iface, .iface 135 (.ptr 0 (.ref .slice) [0])⟩, ⟨.int .i64, i⟩] [⟨false, true, .ref .slice, [.slice 1 (.cons (.int .i64) (.cons (.int .i64) (.cons (.int .i64) (.last (.int .i64))))) [] 0 n]⟩, ⟨false, false, (.cons (.int .i64) (.cons (.int .i64) (.cons (.int .i64) (.last (.int .i64))))), l⟩] (out96 n i l) := by kernel_rfl

end Go.SL.A

/- Heaps of wants: up, down, push, fix. -/
namespace Go.SL.A
open Go Go.SL Go.SL.S

theorem half_up {k : Nat} (h : k ≤ 1000000) : IntKind.i64.wrap (Int.tdiv (IntKind.i64.wrap ((k : Int) - 1)) 2) = (((k - 1) / 2 : Nat) : Int) := by
  rw [w64 (n := (k : Int) - 1) (by omega) (by omega)]
  have d := tdm ((k : Int) - 1) (k := 2) (by decide)
  generalize Int.tdiv ((k : Int) - 1) 2 = q at *
  generalize Int.tmod ((k : Int) - 1) 2 = r at *
  rw [w64 (by omega) (by omega)]
  omega

theorem pure128 (n : Nat) (j : Int) (l : List (Int × Int × Int × Int)) (h1 : n = l.length ∧ n ≤ 1000000) (h2 : 0 ≤ j ∧ j < n) (h3 : ∀ w ∈ l, okW w) : P128 n j l := by
  obtain ⟨rfl, h1⟩ := h1
  unfold P128
  simp only [eq_self, true_and, and_true, Int.toNat_natCast]
  refine ⟨(j.toNat, l), ⟨⟨(Int.toNat_of_nonneg h2.1).symm, rfl⟩, rfl, by simp only; omega, h3, rfl⟩, fun x hx _ => ?_⟩
  obtain ⟨k, L⟩ := x
  obtain ⟨hl, hk, hok, he⟩ := hx
  simp only at hl hk hok he ⊢
  rw [half_up (by omega)]
  simp only [Int.toNat_natCast]
  refine ⟨by decide, ?_⟩
  by_cases h0 : (k - 1) / 2 = k
  · have h0' : (((k - 1) / 2 : Nat) : Int) = (k : Int) := by rw [h0]
    rw [decide_eq_true h0', cond_true]
    refine ⟨by simp, ?_⟩
    rw [upL, decide_eq_true h0] at he
    exact he
  · have h0' : ¬ (((k - 1) / 2 : Nat) : Int) = (k : Int) := by omega
    rw [decide_eq_false h0', cond_false]
    have m1 := hok _ (getD_mem (d := wz) (show k < L.length by omega))
    have m2 := hok _ (getD_mem (d := wz) (show (k - 1) / 2 < L.length by omega))
    refine ⟨⟨hl.symm, ⟨⟨by omega, by omega⟩, by omega, by omega⟩, m1, m2⟩, ?_⟩
    rw [upL, decide_eq_false h0] at he
    cases hlt : ltW (L.getD k wz) (L.getD ((k - 1) / 2) wz) with
    | false =>
      rw [hlt] at he
      simp only [Bool.not_false, cond_true]
      exact he
    | true =>
      rw [hlt] at he
      simp only [Bool.not_true, cond_false]
      simp only at he
      rw [upL_fuel ltW wz k _ _ (by omega)] at he
      refine ⟨⟨hl.symm, ⟨by omega, by omega⟩, by omega, by omega⟩, ((k - 1) / 2, swapL wz L ((k - 1) / 2) k), ⟨rfl, rfl⟩, ⟨by simp only [swapL_len]; exact hl, by simp only; omega, fun w hw => hok w ((swapL_perm wz (by omega) (by omega)).subset hw), he⟩, by simp only; omega⟩

theorem downL_stop {α : Type} (lt : α → α → Bool) (d : α) {n i : Nat} (l : List α) (h : ¬ 2 * i + 1 < n) (f : Nat) : downL lt d n f l i = (l, i) := by
  cases f with
  | zero => rfl
  | succ f => rw [downL, decide_eq_false h]

theorem downL_step {α : Type} (lt : α → α → Bool) (d : α) {n i : Nat} (l : List α) (h : 2 * i + 1 < n) : downL lt d n (n - i) l i =
    bif lt (l.getD (childL lt d l i n) d) (l.getD i d) then downL lt d n (n - childL lt d l i n) (swapL d l i (childL lt d l i n)) (childL lt d l i n) else (l, i) := by
  obtain ⟨f, hf⟩ : ∃ f, n - i = f + 1 := ⟨n - i - 1, by omega⟩
  have hc := childL_cases lt d l i n
  rw [hf, downL, decide_eq_true h]
  generalize childL lt d l i n = c at *
  cases lt (l.getD c d) (l.getD i d) with
  | false => rfl
  | true =>
    simp only [cond_true]
    rw [downL_fuel lt d n f _ c (by omega)]

theorem tail129 {n : Nat} {i m : Int} {L : List W} {R : List W × Nat} {k c : Nat} (hl : L.length = n) (hn : n ≤ 1000000) (hm : m.toNat ≤ n) (hok : ∀ w, w ∈ L → okW w) (he : downL ltW wz m.toNat (m.toNat - k) L k = R) (hk : 2 * k + 1 < m.toNat)
    (hc : childL ltW wz L k m.toNat = c) (hcm : c < m.toNat) (hkc : k < c) :
    (n = L.length ∧ ((0 ≤ (c : Int) ∧ (c : Int) < (n : Int)) ∧ 0 ≤ (k : Int) ∧ (k : Int) < (n : Int)) ∧ okW (L.getD c wz) ∧ okW (L.getD k wz)) ∧
    bif !ltW (L.getD c wz) (L.getD k wz) then decide (i < (k : Int)) = decide (i < (R.2 : Int)) ∧ L = R.1
    else (n = L.length ∧ (0 ≤ (k : Int) ∧ (k : Int) < (n : Int)) ∧ 0 ≤ (c : Int) ∧ (c : Int) < (n : Int)) ∧ ∃ y : Nat × List W, ((c : Int) = (y.1 : Int) ∧ swapL wz L k c = y.2) ∧
      (y.2.length = n ∧ y.1 ≤ 1000000 ∧ (∀ w, List.Mem w y.2 → okW w) ∧ downL ltW wz m.toNat (m.toNat - y.1) y.2 y.1 = R) ∧ m.toNat - y.1 < m.toNat - k := by
  have m1 := hok _ (getD_mem (d := wz) (show c < L.length by omega))
  have m2 := hok _ (getD_mem (d := wz) (show k < L.length by omega))
  refine ⟨⟨hl.symm, ⟨⟨by omega, by omega⟩, by omega, by omega⟩, m1, m2⟩, ?_⟩
  rw [downL_step ltW wz L hk, hc] at he
  cases hlt : ltW (L.getD c wz) (L.getD k wz) with
  | false =>
    rw [hlt] at he
    simp only [Bool.not_false, cond_true]
    rw [cond_false] at he
    rw [← he]; exact ⟨rfl, rfl⟩
  | true =>
    rw [hlt, cond_true] at he
    simp only [Bool.not_true, cond_false]
    exact ⟨⟨hl.symm, ⟨by omega, by omega⟩, by omega, by omega⟩, (c, swapL wz L k c), ⟨rfl, rfl⟩, ⟨by simp only [swapL_len]; exact hl, by simp only; omega, fun w hw => hok w ((swapL_perm wz (by omega) (by omega)).subset hw), he⟩, by simp only; omega⟩

theorem pure129 (n : Nat) (i m : Int) (l : List (Int × Int × Int × Int)) (h1 : n = l.length ∧ n ≤ 1000000) (h2 : (0 ≤ i ∧ i ≤ 1000000) ∧ 0 ≤ m ∧ m ≤ n) (h3 : ∀ w ∈ l, okW w) : P129 n i m l := by
  obtain ⟨rfl, h1⟩ := h1
  obtain ⟨⟨h4, h5⟩, h6, h7⟩ := h2
  unfold P129
  simp only [eq_self, true_and, and_true, Int.toNat_natCast]
  refine ⟨(i.toNat, l), ⟨⟨(Int.toNat_of_nonneg h4).symm, rfl⟩, rfl, by simp only; omega, h3, rfl⟩, fun x hx _ => ?_⟩
  obtain ⟨k, L⟩ := x
  obtain ⟨hl, hk, hok, he⟩ := hx
  simp only at hl hk hok he ⊢
  have w1 : IntKind.i64.wrap (IntKind.i64.wrap (2 * (k : Int)) + 1) = ((2 * k + 1 : Nat) : Int) := by
    rw [w64 (n := 2 * (k : Int)) (by omega) (by omega), w64 (by omega) (by omega)]; omega
  have w2 : IntKind.i64.wrap (((2 * k + 1 : Nat) : Int) + 1) = ((2 * k + 2 : Nat) : Int) := by rw [w64 (by omega) (by omega)]; omega
  rw [w1, w2]
  simp only [Int.toNat_natCast]
  rintro _ rfl
  generalize downL ltW wz m.toNat (m.toNat - i.toNat) l i.toNat = R at *
  by_cases c1 : m ≤ ((2 * k + 1 : Nat) : Int)
  · simp only [c1, decide_true, cond_true, Bool.not_true]
    rw [downL_stop ltW wz L (by omega)] at he
    rw [← he]
    simp
  · have c2 : ¬ ((2 * k + 1 : Nat) : Int) < 0 := by omega
    simp only [c1, c2, decide_false, cond_false, Bool.not_false]
    refine ⟨by simp, ?_⟩
    have hcc := childL_cases ltW wz L k m.toNat
    by_cases c3 : ((2 * k + 2 : Nat) : Int) < m
    · simp only [c3, decide_true, cond_true]
      have m1 := hok _ (getD_mem (d := wz) (show 2 * k + 2 < L.length by omega))
      have m2 := hok _ (getD_mem (d := wz) (show 2 * k + 1 < L.length by omega))
      refine ⟨⟨hl.symm, ⟨⟨by omega, by omega⟩, by omega, by omega⟩, m1, m2⟩, ?_⟩
      cases hlt : ltW (L.getD (2 * k + 2) wz) (L.getD (2 * k + 1) wz) with
      | true =>
        simp only [cond_true]
        refine tail129 hl h1 (by omega) hok he (by omega) ?_ (by omega) (by omega)
        rcases hcc with ⟨_, h⟩ | ⟨h, _⟩
        · have := h (by omega); rw [hlt] at this; cases this
        · exact h
      | false =>
        simp only [cond_false]
        refine tail129 hl h1 (by omega) hok he (by omega) ?_ (by omega) (by omega)
        rcases hcc with ⟨h, _⟩ | ⟨_, _, h⟩
        · exact h
        · rw [hlt] at h; cases h
    · simp only [c3, decide_false, cond_false]
      refine ⟨by simp, ?_⟩
      refine tail129 hl h1 (by omega) hok he (by omega) ?_ (by omega) (by omega)
      rcases hcc with ⟨h, _⟩ | ⟨_, h, _⟩
      · exact h
      · omega

theorem pure94 (n : Nat) (l : List (Int × Int × Int × Int)) (a s c g : Int) (h1 : n = l.length ∧ n ≤ 1000) (h2 : okW (a, s, c, g)) (h3 : ∀ w ∈ l, okW w) : P94 n l a s c g := by
  obtain ⟨rfl, h1⟩ := h1
  unfold P94
  have w1 : IntKind.i64.wrap (((l.length + 1 : Nat) : Int) - 1) = (l.length : Int) := by rw [w64 (by omega) (by omega)]; omega
  rw [w1]
  simp only [eq_self, true_and, and_true, Int.toNat_natCast, List.length_append, List.length_singleton]
  refine ⟨by omega, ⟨by omega, ⟨by omega, by omega⟩, fun w hw => ?_⟩, rfl⟩
  rcases List.mem_append.1 hw with h | h
  · exact h3 w h
  · rw [List.mem_singleton.1 h]; exact h2

theorem pure96 (n : Nat) (i : Int) (l : List (Int × Int × Int × Int)) (h1 : n = l.length ∧ n ≤ 1000000 ∧ i = 0 ∧ 0 < n) (h3 : ∀ w ∈ l, okW w) : P96 n i l := by
  obtain ⟨rfl, h1, rfl, h2⟩ := h1
  unfold P96
  simp only [eq_self, true_and, and_true, Int.toNat_natCast, Int.toNat_zero, Nat.sub_zero, Nat.zero_add]
  refine ⟨⟨h1, ⟨⟨by omega, by omega⟩, by omega, by omega⟩, h3⟩, ?_⟩
  have hp := downL_perm ltW wz l.length l.length l 0 (Nat.le_refl _)
  cases decide ((0 : Int) < ((downL ltW wz l.length l.length l 0).2 : Int)) with
  | true => simp only [Bool.not_true, cond_false]; rfl
  | false =>
    simp only [Bool.not_false, cond_true]
    refine ⟨⟨⟨hp.length_eq.symm, h1⟩, ⟨by omega, by omega⟩, fun w hw => h3 w (hp.subset hw)⟩, ?_⟩
    rw [upL]; rfl
end Go.SL.A

/- Functions do what they are held to do. -/
namespace Go.SL.A
open Go Go.SL Go.SL.S
theorem snd128 : Sound Go.Proofs.Try.prog G128 := snd185.add ⟨_, Go.Proofs.Try.func128, by kernel_rfl, by kernel_rfl⟩ (by
  intro args ins out h hp
  unfold sp128 at h
  split at h
  · rename_i j n l
    cases h
    exact vcFun_ok (C := C128) good snd185 methOk mix Go.Proofs.Try.func128 (ann128 n j l) (fun hw => by rw [← vc128 n j l]; exact pure128 n j l hp.1 hp.2.1 hp.2.2)
  · cases h)

theorem snd129 : Sound Go.Proofs.Try.prog G129 := snd128.add ⟨_, Go.Proofs.Try.func129, by kernel_rfl, by kernel_rfl⟩ (by
  intro args ins out h hp
  unfold sp129 at h
  split at h
  · rename_i i m n l
    cases h
    exact vcFun_ok (C := C129) good snd128 methOk mix Go.Proofs.Try.func129 (ann129 n i m l) (fun hw => by rw [← vc129 n i m l]; exact pure129 n i m l hp.1 hp.2.1 hp.2.2)
  · cases h)

theorem snd94 : Sound Go.Proofs.Try.prog G94 := snd129.add ⟨_, Go.Proofs.Try.func94, by kernel_rfl, by kernel_rfl⟩ (by
  intro args ins out h hp
  unfold sp94 at h
  split at h
  · rename_i a s c g n l
    cases h
    exact vcFun_ok (C := C94) good snd129 methOk mix Go.Proofs.Try.func94 (ann94 n l a s c g) (fun hw => by rw [← vc94 n l a s c g]; exact pure94 n l a s c g hp.1 hp.2.1 hp.2.2)
  · cases h)

theorem snd96 : Sound Go.Proofs.Try.prog G96 := snd94.add ⟨_, Go.Proofs.Try.func96, by kernel_rfl, by kernel_rfl⟩ (by
  intro args ins out h hp
  unfold sp96 at h
  split at h
  · rename_i i n l
    cases h
    exact vcFun_ok (C := C96) good snd94 methOk mix Go.Proofs.Try.func96 (ann96 n i l) (fun hw => by rw [← vc96 n i l]; exact pure96 n i l hp.1 hp.2)
  · cases h)

end Go.SL.A

/- Pulse: plain functions. -/
namespace Go.SL.S
open Go Go.SL
def fewF (y : List Int) : Bool := y.all fun x => decide (-12 ≤ x ∧ x ≤ 12)
def mayF14 (y : List Int) (s : Int) : Bool := fewF y && decide (0 < gainF s)
def coefF (y : List Int) (s : Int) : List Int := if mayF14 y s then y.map (· * gainF s) else [0, 0, 0, 0]
def farTo (c x : List Int) : Nat → Int
  | 0 => 0
  | i + 1 => farTo c x i + absF (c.getD i 0 - x.getD i 0)
def distF (c y : List Int) (s : Int) : Int := if mayF14 y s && heldF c then farTo c (coefF y s) 4 else -1
def findE (c : List Int) (s k : Int) : Int := if gainF s = 0 ∨ k < 0 ∨ 12 < k then 1 else if heldF c then 0 else 7
def findV (c : List Int) (s k : Int) : List Int := if findE c s k = 0 then findF c (gainF s) k.toNat else [0, 0, 0, 0]
def heldL (c : List Int) : List Int := c.map fun x => x.tmod 1048577
end Go.SL.S

/- Functions and what they are held to do: bound to their code. -/
namespace Go.SL.A
open Go Go.SL Go.SL.S
set_option maxRecDepth 100000
noncomputable def C98 : Ctx := ⟨Go.Proofs.Try.prog, D, G96, meth14, fun _ => []⟩
def ann98 (y : List Int) (_s : Int) : Nat → St → Option Ann := fun _ _ => some ⟨Nat, [1, 7], [], fun i => [(8, .v (.int .i64) (i : Int))], fun _ => [], fun i => i ≤ 4 ∧ fewF (y.take i) = true, fun i => 4 - i⟩
def out98 (y : List Int) (s : Int) : COut := ⟨[], .v .bool (mayF14 y s), [], []⟩
def sp98 : Spec := fun args ins => match args, ins with
  | [⟨.arr 4 (.int .i64), y⟩, ⟨.int .i64, s⟩], [] => some (out98 y s)
  | _, _ => none
def G98 := addG G96 98 sp98
def P98 (y : List Int) (s : Int) : Prop :=
  ∃ (x : Nat), ((s = s ∧ y = y ∧ (0 : Int) = (↑x : Int)) ∧ x ≤ (4 : Nat) ∧ fewF (List.take x y) = true) ∧ ∀ (x : Nat), x ≤ (4 : Nat) ∧ fewF (List.take x y) = true → IntKind.min IntKind.i64 ≤ (↑x : Int) ∧ (↑x : Int) ≤
  IntKind.max IntKind.i64 → bif decide ((↑x : Int) < (4 : Int)) then ((0 : Int) ≤ (↑x : Int) ∧ (↑x : Int) < (↑(4 : Nat) : Int)) ∧ ∀ (b : Bool), decide (List.getD y (Int.toNat (↑x : Int)) (0 : Int) < (-12 : Int)) = b →
  (((!b) = true → (!b) = true) ∧ (b = false → (!b) = true)) ∧ bif bif b then true else decide ((12 : Int) < List.getD y (Int.toNat (↑x : Int)) (0 : Int)) then false = mayF14 y s else ∃ (y_1 : Nat), (s = s ∧ y = y ∧
  IntKind.wrap IntKind.i64 ((↑x : Int) + (1 : Int)) = (↑y_1 : Int)) ∧ (y_1 ≤ (4 : Nat) ∧ fewF (List.take y_1 y) = true) ∧ (4 : Nat) - y_1 < (4 : Nat) - x else decide ((0 : Int) < gainF s) = mayF14 y s
theorem vc98 (y : List Int) (s : Int) : P98 y s = vcFun C98 (ann98 y s) Go.Proofs.Try.f98 [⟨.arr 4 (.int .i64), y⟩, ⟨.int .i64, s⟩] [] (out98 y s) := by kernel_rfl

noncomputable def C63 : Ctx := ⟨Go.Proofs.Try.prog, D, G98, meth14, fun _ => []⟩
def ann63 (y : List Int) (s : Int) : Nat → St → Option Ann := fun _ _ => some ⟨Nat, [1, 4, 5, 13], [1], fun i => [(14, .v (.int .i64) (i : Int))], fun i => [(2, some ⟨false, true, .arr 4 (.int .i64), [(y.map (· * gainF s)).take i ++ [0, 0, 0, 0].drop i]⟩)], fun i => i ≤ 4, fun i => 4 - i⟩
def out63 (y : List Int) (s : Int) : COut := ⟨[], .v (.arr 4 (.int .i64)) (coefF y s), [], []⟩
def sp63 : Spec := fun args ins => match args, ins with
  | [⟨.arr 4 (.int .i64), y⟩, ⟨.int .i64, s⟩], [] => some (out63 y s)
  | _, _ => none
def G63 := addG G98 63 sp63
def P63 (y : List Int) (s : Int) : Prop :=
  bif !mayF14 y s then (0 : Int) :: List.replicate (nat_lit 3) (0 : Int) = coefF y s else ∃ (x : Nat), ((s = s ∧ (0 : Nat) = (0 : Nat) ∧ (0 : Nat) = (0 : Nat) ∧ y = y ∧ (0 : Int) = (↑x : Int) ∧ (0 : Int) :: List.replicate
  (nat_lit 3) (0 : Int) = List.replicate (4 : Nat) (0 : Int) ∧ false = false ∧ (0 : Int) :: List.replicate (nat_lit 3) (0 : Int) = List.take x (List.map (fun (x : Int) => x * gainF s) y) ++ List.drop x [(0 : Int), (0 :
  Int), (0 : Int), (0 : Int)] ∧ false = false) ∧ x ≤ (4 : Nat)) ∧ ∀ (x : Nat), x ≤ (4 : Nat) → (IntKind.min IntKind.i64 ≤ (↑x : Int) ∧ (↑x : Int) ≤ IntKind.max IntKind.i64 ∧ ∀ (y_1 : List Int), List.Mem y_1 [List.take x
  (List.map (fun (x : Int) => x * gainF s) y) ++ List.drop x [(0 : Int), (0 : Int), (0 : Int), (0 : Int)]] → List.length y_1 = (4 : Nat) ∧ ∀ (y : Int), List.Mem y y_1 → IntKind.min IntKind.i64 ≤ y ∧ y ≤ IntKind.max
  IntKind.i64) → bif decide ((↑x : Int) < (4 : Int)) then ((0 : Int) ≤ (↑x : Int) ∧ (↑x : Int) < (↑(4 : Nat) : Int)) ∧ (((0 : Int) ≤ (↑x : Int) ∧ (↑x : Int) < (↑(4 : Nat) : Int)) ∧ Int.toNat (↑x : Int) < (4 : Nat)) ∧ ∃ (y_1
  : Nat), (s = s ∧ (0 : Nat) = (0 : Nat) ∧ (0 : Nat) = (0 : Nat) ∧ y = y ∧ IntKind.wrap IntKind.i64 ((↑x : Int) + (1 : Int)) = (↑y_1 : Int) ∧ (0 : Int) :: List.replicate (nat_lit 3) (0 : Int) = List.replicate (4 : Nat) (0 :
  Int) ∧ false = false ∧ List.set (List.take x (List.map (fun (x : Int) => x * gainF s) y) ++ List.drop x [(0 : Int), (0 : Int), (0 : Int), (0 : Int)]) (Int.toNat (↑x : Int)) (IntKind.wrap IntKind.i64 (List.getD y
  (Int.toNat (↑x : Int)) (0 : Int) * gainF s)) = List.take y_1 (List.map (fun (x : Int) => x * gainF s) y) ++ List.drop y_1 [(0 : Int), (0 : Int), (0 : Int), (0 : Int)] ∧ false = false) ∧ y_1 ≤ (4 : Nat) ∧ (4 : Nat) - y_1 <
  (4 : Nat) - x else List.append (List.take x (List.map (fun (x : Int) => x * gainF s) y)) (List.drop x [(0 : Int), (0 : Int), (0 : Int), (0 : Int)]) = coefF y s
theorem vc63 (y : List Int) (s : Int) : P63 y s = vcFun C63 (ann63 y s) Go.Proofs.Try.f63 [⟨.arr 4 (.int .i64), y⟩, ⟨.int .i64, s⟩] [] (out63 y s) := by kernel_rfl

noncomputable def C54 : Ctx := ⟨Go.Proofs.Try.prog, D, G63, meth14, fun _ => []⟩
def ann54 (c y : List Int) (s : Int) : Nat → St → Option Ann := fun _ _ => some ⟨Nat, [3, 21], [0], fun i => [(22, .v (.int .i64) (i : Int)), (7, .v (.int .i64) (farTo c (coefF y s) i))], fun _ => [], fun i => i ≤ 4, fun i => 4 - i⟩
def out54 (c y : List Int) (s : Int) : COut := ⟨[], .v (.int .i64) (distF c y s), [], []⟩
def sp54 : Spec := fun args ins => match args, ins with
  | [⟨.arr 4 (.int .i64), c⟩, ⟨.arr 4 (.int .i64), y⟩, ⟨.int .i64, s⟩], [] => some (out54 c y s)
  | _, _ => none
def G54 := addG G63 54 sp54
def P54 (c y : List Int) (s : Int) : Prop :=
  bif !mayF14 y s then (true = false → false = true) ∧ (-1 : Int) = distF c y s else bif !heldF c then (-1 : Int) = distF c y s else ∃ (x : Nat), (((0 : Nat) = (0 : Nat) ∧ (0 : Int) = farTo c (coefF y s) x ∧ coefF y s =
  coefF y s ∧ (0 : Int) = (↑x : Int) ∧ c = c ∧ false = false) ∧ x ≤ (4 : Nat)) ∧ ∀ (x : Nat), x ≤ (4 : Nat) → IntKind.min IntKind.i64 ≤ (↑x : Int) ∧ (↑x : Int) ≤ IntKind.max IntKind.i64 ∧ IntKind.min IntKind.i64 ≤ farTo c
  (coefF y s) x ∧ farTo c (coefF y s) x ≤ IntKind.max IntKind.i64 → bif decide ((↑x : Int) < (4 : Int)) then ((0 : Int) ≤ (↑x : Int) ∧ (↑x : Int) < (↑(4 : Nat) : Int)) ∧ (((0 : Int) ≤ (↑x : Int) ∧ (↑x : Int) < (↑(4 : Nat) :
  Int)) ∧ Int.toNat (↑x : Int) < (4 : Nat) ∧ (-9223372036854775807 : Int) ≤ IntKind.wrap IntKind.i64 (List.getD c (Int.toNat (↑x : Int)) (0 : Int) - List.getD (coefF y s) (Int.toNat (↑x : Int)) (0 : Int)) ∧ IntKind.wrap
  IntKind.i64 (List.getD c (Int.toNat (↑x : Int)) (0 : Int) - List.getD (coefF y s) (Int.toNat (↑x : Int)) (0 : Int)) ≤ (9223372036854775807 : Int)) ∧ ∃ (y_1 : Nat), ((0 : Nat) = (0 : Nat) ∧ IntKind.wrap IntKind.i64 (farTo
  c (coefF y s) x + absF (IntKind.wrap IntKind.i64 (List.getD c (Int.toNat (↑x : Int)) (0 : Int) - List.getD (coefF y s) (Int.toNat (↑x : Int)) (0 : Int)))) = farTo c (coefF y s) y_1 ∧ coefF y s = coefF y s ∧ IntKind.wrap
  IntKind.i64 ((↑x : Int) + (1 : Int)) = (↑y_1 : Int) ∧ c = c ∧ false = false) ∧ y_1 ≤ (4 : Nat) ∧ (4 : Nat) - y_1 < (4 : Nat) - x else farTo c (coefF y s) x = distF c y s
theorem vc54 (c y : List Int) (s : Int) : P54 c y s = vcFun C54 (ann54 c y s) Go.Proofs.Try.f54 [⟨.arr 4 (.int .i64), c⟩, ⟨.arr 4 (.int .i64), y⟩, ⟨.int .i64, s⟩] [] (out54 c y s) := by kernel_rfl

noncomputable def C97 : Ctx := ⟨Go.Proofs.Try.prog, D, G54, meth14, fun _ => []⟩
def ann97 (s : Int) : Nat → St → Option Ann := fun _ _ => some ⟨Nat, [0], [], fun i => [(4, .v (.int .i64) (i : Int)), (3, .v (.int .i64) (gainF i))], fun _ => [], fun i => (i : Int) ≤ s, fun i => s.toNat - i⟩
def out97 (s : Int) : COut := ⟨[0 ≤ s ∧ s ≤ 15], .v (.int .i64) (gainF s), [], []⟩
def sp97 : Spec := fun args ins => match args, ins with
  | [⟨.int .i64, s⟩], [] => some (out97 s)
  | _, _ => none
def G97 := addG G54 97 sp97
def P97 (s : Int) : Prop :=
  ∃ (x : Nat), ((s = s ∧ (1 : Int) = gainF (↑x : Int) ∧ (0 : Int) = (↑x : Int)) ∧ (↑x : Int) ≤ s) ∧ ∀ (x : Nat), (↑x : Int) ≤ s → IntKind.min IntKind.i64 ≤ (↑x : Int) ∧ (↑x : Int) ≤ IntKind.max IntKind.i64 ∧ IntKind.min
  IntKind.i64 ≤ gainF (↑x : Int) ∧ gainF (↑x : Int) ≤ IntKind.max IntKind.i64 → bif decide ((↑x : Int) < s) then ∃ (y : Nat), (s = s ∧ IntKind.wrap IntKind.i64 ((2 : Int) * gainF (↑x : Int)) = gainF (↑y : Int) ∧
  IntKind.wrap IntKind.i64 ((↑x : Int) + (1 : Int)) = (↑y : Int)) ∧ (↑y : Int) ≤ s ∧ Int.toNat s - y < Int.toNat s - x else gainF (↑x : Int) = gainF s
theorem vc97 (s : Int) : P97 s = vcFun C97 (ann97 s) Go.Proofs.Try.f97 [⟨.int .i64, s⟩] [] (out97 s) := by kernel_rfl

noncomputable def C53 : Ctx := ⟨Go.Proofs.Try.prog, D, G97, meth14, fun _ => []⟩
def ann53 (c y : List Int) (s : Int) : Nat → St → Option Ann := fun _ _ => some ⟨Nat, [2, 3, 4], [0, 1], fun i => [(8, .v (.int .i64) (i : Int)), (7, .v (.int .i64) (farTo c (coefF y s) i))], fun _ => [], fun i => i ≤ 4, fun i => 4 - i⟩
def out53 (c y : List Int) (s : Int) : COut := ⟨[0 ≤ s ∧ s ≤ 15, heldF c = true ∧ fewF y = true], .v (.int .i64) (farTo c (coefF y s) 4), [], []⟩
def sp53 : Spec := fun args ins => match args, ins with
  | [⟨.arr 4 (.int .i64), c⟩, ⟨.arr 4 (.int .i64), y⟩, ⟨.int .i64, s⟩], [] => some (out53 c y s)
  | _, _ => none
def G53 := addG G97 53 sp53
def P53 (c y : List Int) (s : Int) : Prop :=
  ∃ (x : Nat), ((s = s ∧ (0 : Nat) = (0 : Nat) ∧ (0 : Nat) = (0 : Nat) ∧ (0 : Int) = farTo c (coefF y s) x ∧ (0 : Int) = (↑x : Int) ∧ c = c ∧ false = false ∧ y = y ∧ false = false) ∧ x ≤ (4 : Nat)) ∧ ∀ (x : Nat), x ≤ (4 :
  Nat) → IntKind.min IntKind.i64 ≤ (↑x : Int) ∧ (↑x : Int) ≤ IntKind.max IntKind.i64 ∧ IntKind.min IntKind.i64 ≤ farTo c (coefF y s) x ∧ farTo c (coefF y s) x ≤ IntKind.max IntKind.i64 → bif decide ((↑x : Int) < (4 : Int))
  then (((0 : Int) ≤ (↑x : Int) ∧ (↑x : Int) < (↑(4 : Nat) : Int)) ∧ Int.toNat (↑x : Int) < (4 : Nat) ∧ ((0 : Int) ≤ (↑x : Int) ∧ (↑x : Int) < (↑(4 : Nat) : Int)) ∧ Int.toNat (↑x : Int) < (4 : Nat) ∧ (0 : Int) ≤ s ∧ s ≤ (15
  : Int)) ∧ ∃ (y_1 : Nat), (s = s ∧ (0 : Nat) = (0 : Nat) ∧ (0 : Nat) = (0 : Nat) ∧ IntKind.wrap IntKind.i64 (farTo c (coefF y s) x + szR (IntKind.wrap IntKind.i64 (List.getD c (Int.toNat (↑x : Int)) (0 : Int) -
  IntKind.wrap IntKind.i64 (List.getD y (Int.toNat (↑x : Int)) (0 : Int) * gainF s)))) = farTo c (coefF y s) y_1 ∧ IntKind.wrap IntKind.i64 ((↑x : Int) + (1 : Int)) = (↑y_1 : Int) ∧ c = c ∧ false = false ∧ y = y ∧ false =
  false) ∧ y_1 ≤ (4 : Nat) ∧ (4 : Nat) - y_1 < (4 : Nat) - x else farTo c (coefF y s) x = farTo c (coefF y s) (4 : Nat)
theorem vc53 (c y : List Int) (s : Int) : P53 c y s = vcFun C53 (ann53 c y s) Go.Proofs.Try.f53 [⟨.arr 4 (.int .i64), c⟩, ⟨.arr 4 (.int .i64), y⟩, ⟨.int .i64, s⟩] [] (out53 c y s) := by kernel_rfl

noncomputable def C51 : Ctx := ⟨Go.Proofs.Try.prog, D, G53, meth14, fun _ => []⟩
def ann51 (c : List Int) : Nat → St → Option Ann := fun _ _ => some ⟨Nat, [1, 2], [1], fun i => [(3, .v (.int .i64) (i : Int))], fun i => [(0, some ⟨false, true, .arr 4 (.int .i64), [(heldL c).take i ++ c.drop i]⟩)], fun i => i ≤ 4, fun i => 4 - i⟩
def out51 (c : List Int) : COut := ⟨[], .v (.arr 4 (.int .i64)) (heldL c), [], []⟩
def sp51 : Spec := fun args ins => match args, ins with
  | [⟨.arr 4 (.int .i64), c⟩], [] => some (out51 c)
  | _, _ => none
def G51 := addG G53 51 sp51
def P51 (c : List Int) : Prop :=
  ∃ (x : Nat), (((0 : Nat) = (0 : Nat) ∧ (0 : Nat) = (0 : Nat) ∧ (0 : Int) = (↑x : Int) ∧ c = List.take x (heldL c) ++ List.drop x c ∧ false = false ∧ (0 : Int) :: List.replicate (nat_lit 3) (0 : Int) = List.replicate (4 :
  Nat) (0 : Int) ∧ false = false) ∧ x ≤ (4 : Nat)) ∧ ∀ (x : Nat), x ≤ (4 : Nat) → (IntKind.min IntKind.i64 ≤ (↑x : Int) ∧ (↑x : Int) ≤ IntKind.max IntKind.i64 ∧ ∀ (y : List Int), List.Mem y [List.take x (heldL c) ++
  List.drop x c] → List.length y = (4 : Nat) ∧ ∀ (y_1 : Int), List.Mem y_1 y → IntKind.min IntKind.i64 ≤ y_1 ∧ y_1 ≤ IntKind.max IntKind.i64) → bif decide ((↑x : Int) < (4 : Int)) then (((0 : Int) ≤ (↑x : Int) ∧ (↑x : Int)
  < (↑(4 : Nat) : Int)) ∧ Int.toNat (↑x : Int) < (4 : Nat) ∧ (1048577 : Int) ≠ (0 : Int) ∧ ((0 : Int) ≤ (↑x : Int) ∧ (↑x : Int) < (↑(4 : Nat) : Int)) ∧ Int.toNat (↑x : Int) < (4 : Nat)) ∧ ∃ (y : Nat), ((0 : Nat) = (0 : Nat)
  ∧ (0 : Nat) = (0 : Nat) ∧ IntKind.wrap IntKind.i64 ((↑x : Int) + (1 : Int)) = (↑y : Int) ∧ List.set (List.take x (heldL c) ++ List.drop x c) (Int.toNat (↑x : Int)) (Int.tmod (List.getD (List.take x (heldL c) ++ List.drop
  x c) (Int.toNat (↑x : Int)) (0 : Int)) (1048577 : Int)) = List.take y (heldL c) ++ List.drop y c ∧ false = false ∧ (0 : Int) :: List.replicate (nat_lit 3) (0 : Int) = List.replicate (4 : Nat) (0 : Int) ∧ false = false) ∧
  y ≤ (4 : Nat) ∧ (4 : Nat) - y < (4 : Nat) - x else List.append (List.take x (heldL c)) (List.drop x c) = heldL c
theorem vc51 (c : List Int) : P51 c = vcFun C51 (ann51 c) Go.Proofs.Try.f51 [⟨.arr 4 (.int .i64), c⟩] [] (out51 c) := by kernel_rfl

noncomputable def C52 : Ctx := ⟨Go.Proofs.Try.prog, D, G51, meth14, fun _ => []⟩
def ann52 (c : List Int) (s k : Int) : Nat → St → Option Ann := fun id _ => match id with | 1 => some ⟨Nat, [1, 2, 3, 6, 7, 8, 33], [0, 1], fun i => [(34, .v (.int .i64) (i : Int))], fun i => [(3, some ⟨false, true, .ref .slice, [.slice 4 (.cons (.int .i64) (.cons (.int .i64) (.cons (.int .i64) (.last (.int .i64))))) [] 0 i]⟩), (4, some ⟨false, false, (.cons (.int .i64) (.cons (.int .i64) (.cons (.int .i64) (.last (.int .i64))))), pushTo c (gainF s) i⟩)], fun i => i ≤ 4, fun i => 4 - i⟩ | _ => some ⟨Nat × List W × List Int, [3, 6, 7, 8, 11, 49], [0, 1, 3], fun x => [(50, .v (.int .i64) (x.1 : Int))], fun x => [(4, some ⟨false, false, (.cons (.int .i64) (.cons (.int .i64) (.cons (.int .i64) (.last (.int .i64))))), x.2.1⟩), (5, some ⟨false, true, .arr 4 (.int .i64), [x.2.2]⟩)], fun x => x.1 ≤ k.toNat ∧ x.2 = iterF c (pushTo c (gainF s) 4, [0, 0, 0, 0]) x.1, fun x => k.toNat - x.1⟩
def out52 (c : List Int) (s k : Int) : COut := ⟨[], .tup [⟨.arr 4 (.int .i64), findV c s k⟩, ⟨.int .i64, findE c s k⟩], [], []⟩
def sp52 : Spec := fun args ins => match args, ins with
  | [⟨.arr 4 (.int .i64), c⟩, ⟨.int .i64, s⟩, ⟨.int .i64, k⟩], [] => some (out52 c s k)
  | _, _ => none
def G52 := addG G51 52 sp52
def P52 (c : List Int) (s k : Int) : Prop :=
  ∀ (b : Bool), decide (gainF s = (0 : Int)) = b → ∀ (b_1 : Bool), (bif b then true else decide (k < (0 : Int))) = b_1 → (((!b) = true → (!b) = true) ∧ (b = false → (!b) = true) ∧ ((!b_1) = true → (!b_1) = true) ∧ (b_1 =
  false → (!b_1) = true)) ∧ bif bif b_1 then true else decide ((12 : Int) < k) then (0 : Int) :: List.replicate (nat_lit 3) (0 : Int) = findV c s k ∧ (1 : Int) = findE c s k else bif !heldF c then (0 : Int) ::
  List.replicate (nat_lit 3) (0 : Int) = findV c s k ∧ (7 : Int) = findE c s k else ∃ (x : Nat), ((s = s ∧ k = k ∧ (0 : Nat) = (0 : Nat) ∧ (0 : Nat) = (0 : Nat) ∧ (0 : Int) = (0 : Int) ∧ (0 : Nat) = (0 : Nat) ∧ c = c ∧ (0 :
  Int) = (↑x : Int) ∧ c = c ∧ false = false ∧ (0 : Int) :: List.replicate (nat_lit 3) (0 : Int) = List.replicate (4 : Nat) (0 : Int) ∧ false = false ∧ (0 : Nat) = (0 : Nat) ∧ (0 : Nat) = x ∧ false = false ∧ [] = pushTo c
  (gainF s) x ∧ false = false) ∧ x ≤ (4 : Nat)) ∧ ∀ (x : Nat), x ≤ (4 : Nat) → (IntKind.min IntKind.i64 ≤ (↑x : Int) ∧ (↑x : Int) ≤ IntKind.max IntKind.i64 ∧ (∀ (y : Ref), List.Mem y [Ref.slice (4 : Nat) (Ty.cons (Ty.int
  IntKind.i64) (Ty.cons (Ty.int IntKind.i64) (Ty.cons (Ty.int IntKind.i64) (Ty.last (Ty.int IntKind.i64))))) [] (0 : Nat) x] → True) ∧ ∀ (y : Int × Int × Int × Int), List.Mem y (pushTo c (gainF s) x) → IntKind.min
  IntKind.i64 ≤ Prod.fst y ∧ Prod.fst y ≤ IntKind.max IntKind.i64 ∧ IntKind.min IntKind.i64 ≤ Prod.fst (Prod.snd y) ∧ Prod.fst (Prod.snd y) ≤ IntKind.max IntKind.i64 ∧ IntKind.min IntKind.i64 ≤ Prod.fst (Prod.snd (Prod.snd
  y)) ∧ Prod.fst (Prod.snd (Prod.snd y)) ≤ IntKind.max IntKind.i64 ∧ IntKind.min IntKind.i64 ≤ Prod.snd (Prod.snd (Prod.snd y)) ∧ Prod.snd (Prod.snd (Prod.snd y)) ≤ IntKind.max IntKind.i64) → bif decide ((↑x : Int) < (4 :
  Int)) then ((0 : Int) ≤ (↑x : Int) ∧ (↑x : Int) < (↑(4 : Nat) : Int)) ∧ (((-9223372036854775807 : Int) ≤ List.getD c (Int.toNat (↑x : Int)) (0 : Int) ∧ List.getD c (Int.toNat (↑x : Int)) (0 : Int) ≤ (9223372036854775807 :
  Int)) ∧ (x = List.length (pushTo c (gainF s) x) ∧ x ≤ (1000 : Nat)) ∧ okW ((↑x : Int), absF (List.getD c (Int.toNat (↑x : Int)) (0 : Int)), (0 : Int), gainF s) ∧ ∀ (w : Int × Int × Int × Int), List.Mem w (pushTo c (gainF
  s) x) → okW w) ∧ ∃ (y : Nat), (s = s ∧ k = k ∧ (0 : Nat) = (0 : Nat) ∧ (0 : Nat) = (0 : Nat) ∧ (0 : Int) = (0 : Int) ∧ (0 : Nat) = (0 : Nat) ∧ c = c ∧ IntKind.wrap IntKind.i64 ((↑x : Int) + (1 : Int)) = (↑y : Int) ∧ c = c
  ∧ false = false ∧ (0 : Int) :: List.replicate (nat_lit 3) (0 : Int) = List.replicate (4 : Nat) (0 : Int) ∧ false = false ∧ (0 : Nat) = (0 : Nat) ∧ x + (1 : Nat) = y ∧ false = false ∧ pushL ltW wz (pushTo c (gainF s) x)
  ((↑x : Int), absF (List.getD c (Int.toNat (↑x : Int)) (0 : Int)), (0 : Int), gainF s) = pushTo c (gainF s) y ∧ false = false) ∧ y ≤ (4 : Nat) ∧ (4 : Nat) - y < (4 : Nat) - x else ∃ (x_1 : Nat × List (Int × Int × Int ×
  Int) × List Int), (((0 : Nat) = (0 : Nat) ∧ (0 : Nat) = (0 : Nat) ∧ (0 : Int) = (0 : Int) ∧ (0 : Nat) = (0 : Nat) ∧ (0 : Nat) = (0 : Nat) ∧ k = k ∧ (0 : Int) = (↑(Prod.fst x_1) : Int) ∧ c = c ∧ false = false ∧ (0 : Int)
  :: List.replicate (nat_lit 3) (0 : Int) = List.replicate (4 : Nat) (0 : Int) ∧ false = false ∧ (0 : Nat) = (0 : Nat) ∧ x = x ∧ false = false ∧ pushTo c (gainF s) x = Prod.fst (Prod.snd x_1) ∧ false = false ∧ (0 : Int) ::
  List.replicate (nat_lit 3) (0 : Int) = Prod.snd (Prod.snd x_1) ∧ false = false) ∧ Prod.fst x_1 ≤ Int.toNat k ∧ Prod.snd x_1 = iterF c (pushTo c (gainF s) (4 : Nat), [(0 : Int), (0 : Int), (0 : Int), (0 : Int)]) (Prod.fst
  x_1)) ∧ ∀ (x_2 : Nat × List (Int × Int × Int × Int) × List Int), Prod.fst x_2 ≤ Int.toNat k ∧ Prod.snd x_2 = iterF c (pushTo c (gainF s) (4 : Nat), [(0 : Int), (0 : Int), (0 : Int), (0 : Int)]) (Prod.fst x_2) →
  (IntKind.min IntKind.i64 ≤ (↑(Prod.fst x_2) : Int) ∧ (↑(Prod.fst x_2) : Int) ≤ IntKind.max IntKind.i64 ∧ (∀ (y : Int × Int × Int × Int), List.Mem y (Prod.fst (Prod.snd x_2)) → IntKind.min IntKind.i64 ≤ Prod.fst y ∧
  Prod.fst y ≤ IntKind.max IntKind.i64 ∧ IntKind.min IntKind.i64 ≤ Prod.fst (Prod.snd y) ∧ Prod.fst (Prod.snd y) ≤ IntKind.max IntKind.i64 ∧ IntKind.min IntKind.i64 ≤ Prod.fst (Prod.snd (Prod.snd y)) ∧ Prod.fst (Prod.snd
  (Prod.snd y)) ≤ IntKind.max IntKind.i64 ∧ IntKind.min IntKind.i64 ≤ Prod.snd (Prod.snd (Prod.snd y)) ∧ Prod.snd (Prod.snd (Prod.snd y)) ≤ IntKind.max IntKind.i64) ∧ ∀ (y : List Int), List.Mem y [Prod.snd (Prod.snd x_2)] →
  List.length y = (4 : Nat) ∧ ∀ (y_1 : Int), List.Mem y_1 y → IntKind.min IntKind.i64 ≤ y_1 ∧ y_1 ≤ IntKind.max IntKind.i64) → bif decide ((↑(Prod.fst x_2) : Int) < k) then (((0 : Int) ≤ (0 : Int) ∧ (0 : Int) < (↑x : Int))
  ∧ (0 : Nat) < List.length (Prod.fst (Prod.snd x_2)) ∧ ((0 : Int) ≤ (0 : Int) ∧ (0 : Int) < (↑x : Int)) ∧ (0 : Nat) < List.length (Prod.fst (Prod.snd x_2))) ∧ (((0 : Int) ≤ (0 : Int) ∧ (0 : Int) < (↑x : Int)) ∧ (0 : Nat) <
  List.length (List.set (Prod.fst (Prod.snd x_2)) (0 : Nat) (Prod.fst (List.getD (Prod.fst (Prod.snd x_2)) (0 : Nat) ((0 : Int), (0 : Int), (0 : Int), (0 : Int))), Prod.fst (Prod.snd (List.getD (Prod.fst (Prod.snd x_2)) (0
  : Nat) ((0 : Int), (0 : Int), (0 : Int), (0 : Int)))), IntKind.wrap IntKind.i64 (Prod.fst (Prod.snd (Prod.snd (List.getD (Prod.fst (Prod.snd x_2)) (0 : Nat) ((0 : Int), (0 : Int), (0 : Int), (0 : Int))))) + (1 : Int)),
  Prod.snd (Prod.snd (Prod.snd (List.getD (Prod.fst (Prod.snd x_2)) (0 : Nat) ((0 : Int), (0 : Int), (0 : Int), (0 : Int)))))))) ∧ (((0 : Int) ≤ Prod.fst (List.getD (List.set (Prod.fst (Prod.snd x_2)) (0 : Nat) (Prod.fst
  (List.getD (Prod.fst (Prod.snd x_2)) (0 : Nat) ((0 : Int), (0 : Int), (0 : Int), (0 : Int))), Prod.fst (Prod.snd (List.getD (Prod.fst (Prod.snd x_2)) (0 : Nat) ((0 : Int), (0 : Int), (0 : Int), (0 : Int)))), IntKind.wrap
  IntKind.i64 (Prod.fst (Prod.snd (Prod.snd (List.getD (Prod.fst (Prod.snd x_2)) (0 : Nat) ((0 : Int), (0 : Int), (0 : Int), (0 : Int))))) + (1 : Int)), Prod.snd (Prod.snd (Prod.snd (List.getD (Prod.fst (Prod.snd x_2)) (0 :
  Nat) ((0 : Int), (0 : Int), (0 : Int), (0 : Int))))))) (0 : Nat) ((0 : Int), (0 : Int), (0 : Int), (0 : Int))) ∧ Prod.fst (List.getD (List.set (Prod.fst (Prod.snd x_2)) (0 : Nat) (Prod.fst (List.getD (Prod.fst (Prod.snd
  x_2)) (0 : Nat) ((0 : Int), (0 : Int), (0 : Int), (0 : Int))), Prod.fst (Prod.snd (List.getD (Prod.fst (Prod.snd x_2)) (0 : Nat) ((0 : Int), (0 : Int), (0 : Int), (0 : Int)))), IntKind.wrap IntKind.i64 (Prod.fst (Prod.snd
  (Prod.snd (List.getD (Prod.fst (Prod.snd x_2)) (0 : Nat) ((0 : Int), (0 : Int), (0 : Int), (0 : Int))))) + (1 : Int)), Prod.snd (Prod.snd (Prod.snd (List.getD (Prod.fst (Prod.snd x_2)) (0 : Nat) ((0 : Int), (0 : Int), (0
  : Int), (0 : Int))))))) (0 : Nat) ((0 : Int), (0 : Int), (0 : Int), (0 : Int))) < (↑(4 : Nat) : Int)) ∧ Int.toNat (Prod.fst (List.getD (List.set (Prod.fst (Prod.snd x_2)) (0 : Nat) (Prod.fst (List.getD (Prod.fst (Prod.snd
  x_2)) (0 : Nat) ((0 : Int), (0 : Int), (0 : Int), (0 : Int))), Prod.fst (Prod.snd (List.getD (Prod.fst (Prod.snd x_2)) (0 : Nat) ((0 : Int), (0 : Int), (0 : Int), (0 : Int)))), IntKind.wrap IntKind.i64 (Prod.fst (Prod.snd
  (Prod.snd (List.getD (Prod.fst (Prod.snd x_2)) (0 : Nat) ((0 : Int), (0 : Int), (0 : Int), (0 : Int))))) + (1 : Int)), Prod.snd (Prod.snd (Prod.snd (List.getD (Prod.fst (Prod.snd x_2)) (0 : Nat) ((0 : Int), (0 : Int), (0
  : Int), (0 : Int))))))) (0 : Nat) ((0 : Int), (0 : Int), (0 : Int), (0 : Int)))) < (4 : Nat)) ∧ bif decide (List.getD c (Int.toNat (Prod.fst (List.getD (List.set (Prod.fst (Prod.snd x_2)) (0 : Nat) (Prod.fst (List.getD
  (Prod.fst (Prod.snd x_2)) (0 : Nat) ((0 : Int), (0 : Int), (0 : Int), (0 : Int))), Prod.fst (Prod.snd (List.getD (Prod.fst (Prod.snd x_2)) (0 : Nat) ((0 : Int), (0 : Int), (0 : Int), (0 : Int)))), IntKind.wrap IntKind.i64
  (Prod.fst (Prod.snd (Prod.snd (List.getD (Prod.fst (Prod.snd x_2)) (0 : Nat) ((0 : Int), (0 : Int), (0 : Int), (0 : Int))))) + (1 : Int)), Prod.snd (Prod.snd (Prod.snd (List.getD (Prod.fst (Prod.snd x_2)) (0 : Nat) ((0 :
  Int), (0 : Int), (0 : Int), (0 : Int))))))) (0 : Nat) ((0 : Int), (0 : Int), (0 : Int), (0 : Int))))) (0 : Int) < (0 : Int)) then (((0 : Int) ≤ Prod.fst (List.getD (List.set (Prod.fst (Prod.snd x_2)) (0 : Nat) (Prod.fst
  (List.getD (Prod.fst (Prod.snd x_2)) (0 : Nat) ((0 : Int), (0 : Int), (0 : Int), (0 : Int))), Prod.fst (Prod.snd (List.getD (Prod.fst (Prod.snd x_2)) (0 : Nat) ((0 : Int), (0 : Int), (0 : Int), (0 : Int)))), IntKind.wrap
  IntKind.i64 (Prod.fst (Prod.snd (Prod.snd (List.getD (Prod.fst (Prod.snd x_2)) (0 : Nat) ((0 : Int), (0 : Int), (0 : Int), (0 : Int))))) + (1 : Int)), Prod.snd (Prod.snd (Prod.snd (List.getD (Prod.fst (Prod.snd x_2)) (0 :
  Nat) ((0 : Int), (0 : Int), (0 : Int), (0 : Int))))))) (0 : Nat) ((0 : Int), (0 : Int), (0 : Int), (0 : Int))) ∧ Prod.fst (List.getD (List.set (Prod.fst (Prod.snd x_2)) (0 : Nat) (Prod.fst (List.getD (Prod.fst (Prod.snd
  x_2)) (0 : Nat) ((0 : Int), (0 : Int), (0 : Int), (0 : Int))), Prod.fst (Prod.snd (List.getD (Prod.fst (Prod.snd x_2)) (0 : Nat) ((0 : Int), (0 : Int), (0 : Int), (0 : Int)))), IntKind.wrap IntKind.i64 (Prod.fst (Prod.snd
  (Prod.snd (List.getD (Prod.fst (Prod.snd x_2)) (0 : Nat) ((0 : Int), (0 : Int), (0 : Int), (0 : Int))))) + (1 : Int)), Prod.snd (Prod.snd (Prod.snd (List.getD (Prod.fst (Prod.snd x_2)) (0 : Nat) ((0 : Int), (0 : Int), (0
  : Int), (0 : Int))))))) (0 : Nat) ((0 : Int), (0 : Int), (0 : Int), (0 : Int))) < (↑(4 : Nat) : Int)) ∧ Int.toNat (Prod.fst (List.getD (List.set (Prod.fst (Prod.snd x_2)) (0 : Nat) (Prod.fst (List.getD (Prod.fst (Prod.snd
  x_2)) (0 : Nat) ((0 : Int), (0 : Int), (0 : Int), (0 : Int))), Prod.fst (Prod.snd (List.getD (Prod.fst (Prod.snd x_2)) (0 : Nat) ((0 : Int), (0 : Int), (0 : Int), (0 : Int)))), IntKind.wrap IntKind.i64 (Prod.fst (Prod.snd
  (Prod.snd (List.getD (Prod.fst (Prod.snd x_2)) (0 : Nat) ((0 : Int), (0 : Int), (0 : Int), (0 : Int))))) + (1 : Int)), Prod.snd (Prod.snd (Prod.snd (List.getD (Prod.fst (Prod.snd x_2)) (0 : Nat) ((0 : Int), (0 : Int), (0
  : Int), (0 : Int))))))) (0 : Nat) ((0 : Int), (0 : Int), (0 : Int), (0 : Int)))) < (4 : Nat) ∧ ((0 : Int) ≤ Prod.fst (List.getD (List.set (Prod.fst (Prod.snd x_2)) (0 : Nat) (Prod.fst (List.getD (Prod.fst (Prod.snd x_2))
  (0 : Nat) ((0 : Int), (0 : Int), (0 : Int), (0 : Int))), Prod.fst (Prod.snd (List.getD (Prod.fst (Prod.snd x_2)) (0 : Nat) ((0 : Int), (0 : Int), (0 : Int), (0 : Int)))), IntKind.wrap IntKind.i64 (Prod.fst (Prod.snd
  (Prod.snd (List.getD (Prod.fst (Prod.snd x_2)) (0 : Nat) ((0 : Int), (0 : Int), (0 : Int), (0 : Int))))) + (1 : Int)), Prod.snd (Prod.snd (Prod.snd (List.getD (Prod.fst (Prod.snd x_2)) (0 : Nat) ((0 : Int), (0 : Int), (0
  : Int), (0 : Int))))))) (0 : Nat) ((0 : Int), (0 : Int), (0 : Int), (0 : Int))) ∧ Prod.fst (List.getD (List.set (Prod.fst (Prod.snd x_2)) (0 : Nat) (Prod.fst (List.getD (Prod.fst (Prod.snd x_2)) (0 : Nat) ((0 : Int), (0 :
  Int), (0 : Int), (0 : Int))), Prod.fst (Prod.snd (List.getD (Prod.fst (Prod.snd x_2)) (0 : Nat) ((0 : Int), (0 : Int), (0 : Int), (0 : Int)))), IntKind.wrap IntKind.i64 (Prod.fst (Prod.snd (Prod.snd (List.getD (Prod.fst
  (Prod.snd x_2)) (0 : Nat) ((0 : Int), (0 : Int), (0 : Int), (0 : Int))))) + (1 : Int)), Prod.snd (Prod.snd (Prod.snd (List.getD (Prod.fst (Prod.snd x_2)) (0 : Nat) ((0 : Int), (0 : Int), (0 : Int), (0 : Int))))))) (0 :
  Nat) ((0 : Int), (0 : Int), (0 : Int), (0 : Int))) < (↑(4 : Nat) : Int)) ∧ Int.toNat (Prod.fst (List.getD (List.set (Prod.fst (Prod.snd x_2)) (0 : Nat) (Prod.fst (List.getD (Prod.fst (Prod.snd x_2)) (0 : Nat) ((0 : Int),
  (0 : Int), (0 : Int), (0 : Int))), Prod.fst (Prod.snd (List.getD (Prod.fst (Prod.snd x_2)) (0 : Nat) ((0 : Int), (0 : Int), (0 : Int), (0 : Int)))), IntKind.wrap IntKind.i64 (Prod.fst (Prod.snd (Prod.snd (List.getD
  (Prod.fst (Prod.snd x_2)) (0 : Nat) ((0 : Int), (0 : Int), (0 : Int), (0 : Int))))) + (1 : Int)), Prod.snd (Prod.snd (Prod.snd (List.getD (Prod.fst (Prod.snd x_2)) (0 : Nat) ((0 : Int), (0 : Int), (0 : Int), (0 :
  Int))))))) (0 : Nat) ((0 : Int), (0 : Int), (0 : Int), (0 : Int)))) < (4 : Nat)) ∧ ((x = List.length (List.set (Prod.fst (Prod.snd x_2)) (0 : Nat) (Prod.fst (List.getD (Prod.fst (Prod.snd x_2)) (0 : Nat) ((0 : Int), (0 :
  Int), (0 : Int), (0 : Int))), Prod.fst (Prod.snd (List.getD (Prod.fst (Prod.snd x_2)) (0 : Nat) ((0 : Int), (0 : Int), (0 : Int), (0 : Int)))), IntKind.wrap IntKind.i64 (Prod.fst (Prod.snd (Prod.snd (List.getD (Prod.fst
  (Prod.snd x_2)) (0 : Nat) ((0 : Int), (0 : Int), (0 : Int), (0 : Int))))) + (1 : Int)), Prod.snd (Prod.snd (Prod.snd (List.getD (Prod.fst (Prod.snd x_2)) (0 : Nat) ((0 : Int), (0 : Int), (0 : Int), (0 : Int))))))) ∧ x ≤
  (1000000 : Nat) ∧ (0 : Int) = (0 : Int) ∧ (0 : Nat) < x) ∧ ∀ (w : Int × Int × Int × Int), List.Mem w (List.set (Prod.fst (Prod.snd x_2)) (0 : Nat) (Prod.fst (List.getD (Prod.fst (Prod.snd x_2)) (0 : Nat) ((0 : Int), (0 :
  Int), (0 : Int), (0 : Int))), Prod.fst (Prod.snd (List.getD (Prod.fst (Prod.snd x_2)) (0 : Nat) ((0 : Int), (0 : Int), (0 : Int), (0 : Int)))), IntKind.wrap IntKind.i64 (Prod.fst (Prod.snd (Prod.snd (List.getD (Prod.fst
  (Prod.snd x_2)) (0 : Nat) ((0 : Int), (0 : Int), (0 : Int), (0 : Int))))) + (1 : Int)), Prod.snd (Prod.snd (Prod.snd (List.getD (Prod.fst (Prod.snd x_2)) (0 : Nat) ((0 : Int), (0 : Int), (0 : Int), (0 : Int))))))) → okW
  w) ∧ ∃ (y : Nat × List (Int × Int × Int × Int) × List Int), ((0 : Nat) = (0 : Nat) ∧ (0 : Nat) = (0 : Nat) ∧ (0 : Int) = (0 : Int) ∧ (0 : Nat) = (0 : Nat) ∧ (0 : Nat) = (0 : Nat) ∧ k = k ∧ IntKind.wrap IntKind.i64
  ((↑(Prod.fst x_2) : Int) + (1 : Int)) = (↑(Prod.fst y) : Int) ∧ c = c ∧ false = false ∧ (0 : Int) :: List.replicate (nat_lit 3) (0 : Int) = List.replicate (4 : Nat) (0 : Int) ∧ false = false ∧ (0 : Nat) = (0 : Nat) ∧ x =
  x ∧ false = false ∧ fixL ltW wz (List.set (Prod.fst (Prod.snd x_2)) (0 : Nat) (Prod.fst (List.getD (Prod.fst (Prod.snd x_2)) (0 : Nat) ((0 : Int), (0 : Int), (0 : Int), (0 : Int))), Prod.fst (Prod.snd (List.getD (Prod.fst
  (Prod.snd x_2)) (0 : Nat) ((0 : Int), (0 : Int), (0 : Int), (0 : Int)))), IntKind.wrap IntKind.i64 (Prod.fst (Prod.snd (Prod.snd (List.getD (Prod.fst (Prod.snd x_2)) (0 : Nat) ((0 : Int), (0 : Int), (0 : Int), (0 :
  Int))))) + (1 : Int)), Prod.snd (Prod.snd (Prod.snd (List.getD (Prod.fst (Prod.snd x_2)) (0 : Nat) ((0 : Int), (0 : Int), (0 : Int), (0 : Int))))))) = Prod.fst (Prod.snd y) ∧ false = false ∧ List.set (Prod.snd (Prod.snd
  x_2)) (Int.toNat (Prod.fst (List.getD (List.set (Prod.fst (Prod.snd x_2)) (0 : Nat) (Prod.fst (List.getD (Prod.fst (Prod.snd x_2)) (0 : Nat) ((0 : Int), (0 : Int), (0 : Int), (0 : Int))), Prod.fst (Prod.snd (List.getD
  (Prod.fst (Prod.snd x_2)) (0 : Nat) ((0 : Int), (0 : Int), (0 : Int), (0 : Int)))), IntKind.wrap IntKind.i64 (Prod.fst (Prod.snd (Prod.snd (List.getD (Prod.fst (Prod.snd x_2)) (0 : Nat) ((0 : Int), (0 : Int), (0 : Int),
  (0 : Int))))) + (1 : Int)), Prod.snd (Prod.snd (Prod.snd (List.getD (Prod.fst (Prod.snd x_2)) (0 : Nat) ((0 : Int), (0 : Int), (0 : Int), (0 : Int))))))) (0 : Nat) ((0 : Int), (0 : Int), (0 : Int), (0 : Int)))))
  (IntKind.wrap IntKind.i64 (List.getD (Prod.snd (Prod.snd x_2)) (Int.toNat (Prod.fst (List.getD (List.set (Prod.fst (Prod.snd x_2)) (0 : Nat) (Prod.fst (List.getD (Prod.fst (Prod.snd x_2)) (0 : Nat) ((0 : Int), (0 : Int),
  (0 : Int), (0 : Int))), Prod.fst (Prod.snd (List.getD (Prod.fst (Prod.snd x_2)) (0 : Nat) ((0 : Int), (0 : Int), (0 : Int), (0 : Int)))), IntKind.wrap IntKind.i64 (Prod.fst (Prod.snd (Prod.snd (List.getD (Prod.fst
  (Prod.snd x_2)) (0 : Nat) ((0 : Int), (0 : Int), (0 : Int), (0 : Int))))) + (1 : Int)), Prod.snd (Prod.snd (Prod.snd (List.getD (Prod.fst (Prod.snd x_2)) (0 : Nat) ((0 : Int), (0 : Int), (0 : Int), (0 : Int))))))) (0 :
  Nat) ((0 : Int), (0 : Int), (0 : Int), (0 : Int))))) (0 : Int) - (1 : Int))) = Prod.snd (Prod.snd y) ∧ false = false) ∧ (Prod.fst y ≤ Int.toNat k ∧ Prod.snd y = iterF c (pushTo c (gainF s) (4 : Nat), [(0 : Int), (0 :
  Int), (0 : Int), (0 : Int)]) (Prod.fst y)) ∧ Int.toNat k - Prod.fst y < Int.toNat k - Prod.fst x_2 else (((0 : Int) ≤ Prod.fst (List.getD (List.set (Prod.fst (Prod.snd x_2)) (0 : Nat) (Prod.fst (List.getD (Prod.fst
  (Prod.snd x_2)) (0 : Nat) ((0 : Int), (0 : Int), (0 : Int), (0 : Int))), Prod.fst (Prod.snd (List.getD (Prod.fst (Prod.snd x_2)) (0 : Nat) ((0 : Int), (0 : Int), (0 : Int), (0 : Int)))), IntKind.wrap IntKind.i64 (Prod.fst
  (Prod.snd (Prod.snd (List.getD (Prod.fst (Prod.snd x_2)) (0 : Nat) ((0 : Int), (0 : Int), (0 : Int), (0 : Int))))) + (1 : Int)), Prod.snd (Prod.snd (Prod.snd (List.getD (Prod.fst (Prod.snd x_2)) (0 : Nat) ((0 : Int), (0 :
  Int), (0 : Int), (0 : Int))))))) (0 : Nat) ((0 : Int), (0 : Int), (0 : Int), (0 : Int))) ∧ Prod.fst (List.getD (List.set (Prod.fst (Prod.snd x_2)) (0 : Nat) (Prod.fst (List.getD (Prod.fst (Prod.snd x_2)) (0 : Nat) ((0 :
  Int), (0 : Int), (0 : Int), (0 : Int))), Prod.fst (Prod.snd (List.getD (Prod.fst (Prod.snd x_2)) (0 : Nat) ((0 : Int), (0 : Int), (0 : Int), (0 : Int)))), IntKind.wrap IntKind.i64 (Prod.fst (Prod.snd (Prod.snd (List.getD
  (Prod.fst (Prod.snd x_2)) (0 : Nat) ((0 : Int), (0 : Int), (0 : Int), (0 : Int))))) + (1 : Int)), Prod.snd (Prod.snd (Prod.snd (List.getD (Prod.fst (Prod.snd x_2)) (0 : Nat) ((0 : Int), (0 : Int), (0 : Int), (0 :
  Int))))))) (0 : Nat) ((0 : Int), (0 : Int), (0 : Int), (0 : Int))) < (↑(4 : Nat) : Int)) ∧ Int.toNat (Prod.fst (List.getD (List.set (Prod.fst (Prod.snd x_2)) (0 : Nat) (Prod.fst (List.getD (Prod.fst (Prod.snd x_2)) (0 :
  Nat) ((0 : Int), (0 : Int), (0 : Int), (0 : Int))), Prod.fst (Prod.snd (List.getD (Prod.fst (Prod.snd x_2)) (0 : Nat) ((0 : Int), (0 : Int), (0 : Int), (0 : Int)))), IntKind.wrap IntKind.i64 (Prod.fst (Prod.snd (Prod.snd
  (List.getD (Prod.fst (Prod.snd x_2)) (0 : Nat) ((0 : Int), (0 : Int), (0 : Int), (0 : Int))))) + (1 : Int)), Prod.snd (Prod.snd (Prod.snd (List.getD (Prod.fst (Prod.snd x_2)) (0 : Nat) ((0 : Int), (0 : Int), (0 : Int), (0
  : Int))))))) (0 : Nat) ((0 : Int), (0 : Int), (0 : Int), (0 : Int)))) < (4 : Nat) ∧ ((0 : Int) ≤ Prod.fst (List.getD (List.set (Prod.fst (Prod.snd x_2)) (0 : Nat) (Prod.fst (List.getD (Prod.fst (Prod.snd x_2)) (0 : Nat)
  ((0 : Int), (0 : Int), (0 : Int), (0 : Int))), Prod.fst (Prod.snd (List.getD (Prod.fst (Prod.snd x_2)) (0 : Nat) ((0 : Int), (0 : Int), (0 : Int), (0 : Int)))), IntKind.wrap IntKind.i64 (Prod.fst (Prod.snd (Prod.snd
  (List.getD (Prod.fst (Prod.snd x_2)) (0 : Nat) ((0 : Int), (0 : Int), (0 : Int), (0 : Int))))) + (1 : Int)), Prod.snd (Prod.snd (Prod.snd (List.getD (Prod.fst (Prod.snd x_2)) (0 : Nat) ((0 : Int), (0 : Int), (0 : Int), (0
  : Int))))))) (0 : Nat) ((0 : Int), (0 : Int), (0 : Int), (0 : Int))) ∧ Prod.fst (List.getD (List.set (Prod.fst (Prod.snd x_2)) (0 : Nat) (Prod.fst (List.getD (Prod.fst (Prod.snd x_2)) (0 : Nat) ((0 : Int), (0 : Int), (0 :
  Int), (0 : Int))), Prod.fst (Prod.snd (List.getD (Prod.fst (Prod.snd x_2)) (0 : Nat) ((0 : Int), (0 : Int), (0 : Int), (0 : Int)))), IntKind.wrap IntKind.i64 (Prod.fst (Prod.snd (Prod.snd (List.getD (Prod.fst (Prod.snd
  x_2)) (0 : Nat) ((0 : Int), (0 : Int), (0 : Int), (0 : Int))))) + (1 : Int)), Prod.snd (Prod.snd (Prod.snd (List.getD (Prod.fst (Prod.snd x_2)) (0 : Nat) ((0 : Int), (0 : Int), (0 : Int), (0 : Int))))))) (0 : Nat) ((0 :
  Int), (0 : Int), (0 : Int), (0 : Int))) < (↑(4 : Nat) : Int)) ∧ Int.toNat (Prod.fst (List.getD (List.set (Prod.fst (Prod.snd x_2)) (0 : Nat) (Prod.fst (List.getD (Prod.fst (Prod.snd x_2)) (0 : Nat) ((0 : Int), (0 : Int),
  (0 : Int), (0 : Int))), Prod.fst (Prod.snd (List.getD (Prod.fst (Prod.snd x_2)) (0 : Nat) ((0 : Int), (0 : Int), (0 : Int), (0 : Int)))), IntKind.wrap IntKind.i64 (Prod.fst (Prod.snd (Prod.snd (List.getD (Prod.fst
  (Prod.snd x_2)) (0 : Nat) ((0 : Int), (0 : Int), (0 : Int), (0 : Int))))) + (1 : Int)), Prod.snd (Prod.snd (Prod.snd (List.getD (Prod.fst (Prod.snd x_2)) (0 : Nat) ((0 : Int), (0 : Int), (0 : Int), (0 : Int))))))) (0 :
  Nat) ((0 : Int), (0 : Int), (0 : Int), (0 : Int)))) < (4 : Nat)) ∧ ((x = List.length (List.set (Prod.fst (Prod.snd x_2)) (0 : Nat) (Prod.fst (List.getD (Prod.fst (Prod.snd x_2)) (0 : Nat) ((0 : Int), (0 : Int), (0 : Int),
  (0 : Int))), Prod.fst (Prod.snd (List.getD (Prod.fst (Prod.snd x_2)) (0 : Nat) ((0 : Int), (0 : Int), (0 : Int), (0 : Int)))), IntKind.wrap IntKind.i64 (Prod.fst (Prod.snd (Prod.snd (List.getD (Prod.fst (Prod.snd x_2)) (0
  : Nat) ((0 : Int), (0 : Int), (0 : Int), (0 : Int))))) + (1 : Int)), Prod.snd (Prod.snd (Prod.snd (List.getD (Prod.fst (Prod.snd x_2)) (0 : Nat) ((0 : Int), (0 : Int), (0 : Int), (0 : Int))))))) ∧ x ≤ (1000000 : Nat) ∧ (0
  : Int) = (0 : Int) ∧ (0 : Nat) < x) ∧ ∀ (w : Int × Int × Int × Int), List.Mem w (List.set (Prod.fst (Prod.snd x_2)) (0 : Nat) (Prod.fst (List.getD (Prod.fst (Prod.snd x_2)) (0 : Nat) ((0 : Int), (0 : Int), (0 : Int), (0 :
  Int))), Prod.fst (Prod.snd (List.getD (Prod.fst (Prod.snd x_2)) (0 : Nat) ((0 : Int), (0 : Int), (0 : Int), (0 : Int)))), IntKind.wrap IntKind.i64 (Prod.fst (Prod.snd (Prod.snd (List.getD (Prod.fst (Prod.snd x_2)) (0 :
  Nat) ((0 : Int), (0 : Int), (0 : Int), (0 : Int))))) + (1 : Int)), Prod.snd (Prod.snd (Prod.snd (List.getD (Prod.fst (Prod.snd x_2)) (0 : Nat) ((0 : Int), (0 : Int), (0 : Int), (0 : Int))))))) → okW w) ∧ ∃ (y : Nat × List
  (Int × Int × Int × Int) × List Int), ((0 : Nat) = (0 : Nat) ∧ (0 : Nat) = (0 : Nat) ∧ (0 : Int) = (0 : Int) ∧ (0 : Nat) = (0 : Nat) ∧ (0 : Nat) = (0 : Nat) ∧ k = k ∧ IntKind.wrap IntKind.i64 ((↑(Prod.fst x_2) : Int) + (1
  : Int)) = (↑(Prod.fst y) : Int) ∧ c = c ∧ false = false ∧ (0 : Int) :: List.replicate (nat_lit 3) (0 : Int) = List.replicate (4 : Nat) (0 : Int) ∧ false = false ∧ (0 : Nat) = (0 : Nat) ∧ x = x ∧ false = false ∧ fixL ltW
  wz (List.set (Prod.fst (Prod.snd x_2)) (0 : Nat) (Prod.fst (List.getD (Prod.fst (Prod.snd x_2)) (0 : Nat) ((0 : Int), (0 : Int), (0 : Int), (0 : Int))), Prod.fst (Prod.snd (List.getD (Prod.fst (Prod.snd x_2)) (0 : Nat)
  ((0 : Int), (0 : Int), (0 : Int), (0 : Int)))), IntKind.wrap IntKind.i64 (Prod.fst (Prod.snd (Prod.snd (List.getD (Prod.fst (Prod.snd x_2)) (0 : Nat) ((0 : Int), (0 : Int), (0 : Int), (0 : Int))))) + (1 : Int)), Prod.snd
  (Prod.snd (Prod.snd (List.getD (Prod.fst (Prod.snd x_2)) (0 : Nat) ((0 : Int), (0 : Int), (0 : Int), (0 : Int))))))) = Prod.fst (Prod.snd y) ∧ false = false ∧ List.set (Prod.snd (Prod.snd x_2)) (Int.toNat (Prod.fst
  (List.getD (List.set (Prod.fst (Prod.snd x_2)) (0 : Nat) (Prod.fst (List.getD (Prod.fst (Prod.snd x_2)) (0 : Nat) ((0 : Int), (0 : Int), (0 : Int), (0 : Int))), Prod.fst (Prod.snd (List.getD (Prod.fst (Prod.snd x_2)) (0 :
  Nat) ((0 : Int), (0 : Int), (0 : Int), (0 : Int)))), IntKind.wrap IntKind.i64 (Prod.fst (Prod.snd (Prod.snd (List.getD (Prod.fst (Prod.snd x_2)) (0 : Nat) ((0 : Int), (0 : Int), (0 : Int), (0 : Int))))) + (1 : Int)),
  Prod.snd (Prod.snd (Prod.snd (List.getD (Prod.fst (Prod.snd x_2)) (0 : Nat) ((0 : Int), (0 : Int), (0 : Int), (0 : Int))))))) (0 : Nat) ((0 : Int), (0 : Int), (0 : Int), (0 : Int))))) (IntKind.wrap IntKind.i64 (List.getD
  (Prod.snd (Prod.snd x_2)) (Int.toNat (Prod.fst (List.getD (List.set (Prod.fst (Prod.snd x_2)) (0 : Nat) (Prod.fst (List.getD (Prod.fst (Prod.snd x_2)) (0 : Nat) ((0 : Int), (0 : Int), (0 : Int), (0 : Int))), Prod.fst
  (Prod.snd (List.getD (Prod.fst (Prod.snd x_2)) (0 : Nat) ((0 : Int), (0 : Int), (0 : Int), (0 : Int)))), IntKind.wrap IntKind.i64 (Prod.fst (Prod.snd (Prod.snd (List.getD (Prod.fst (Prod.snd x_2)) (0 : Nat) ((0 : Int), (0
  : Int), (0 : Int), (0 : Int))))) + (1 : Int)), Prod.snd (Prod.snd (Prod.snd (List.getD (Prod.fst (Prod.snd x_2)) (0 : Nat) ((0 : Int), (0 : Int), (0 : Int), (0 : Int))))))) (0 : Nat) ((0 : Int), (0 : Int), (0 : Int), (0 :
  Int))))) (0 : Int) + (1 : Int))) = Prod.snd (Prod.snd y) ∧ false = false) ∧ (Prod.fst y ≤ Int.toNat k ∧ Prod.snd y = iterF c (pushTo c (gainF s) (4 : Nat), [(0 : Int), (0 : Int), (0 : Int), (0 : Int)]) (Prod.fst y)) ∧
  Int.toNat k - Prod.fst y < Int.toNat k - Prod.fst x_2 else Prod.snd (Prod.snd x_2) = findV c s k ∧ (0 : Int) = findE c s k
theorem vc52 (c : List Int) (s k : Int) : P52 c s k = vcFun C52 (ann52 c s k) Go.Proofs.Try.f52 [⟨.arr 4 (.int .i64), c⟩, ⟨.int .i64, s⟩, ⟨.int .i64, k⟩] [] (out52 c s k) := by kernel_rfl

noncomputable def C50 : Ctx := ⟨Go.Proofs.Try.prog, D, G52, meth14, fun _ => []⟩
def ann50  : Nat → St → Option Ann := fun _ _ => none
def out50  : COut := ⟨[], .v .bool true, [], []⟩
def sp50 : Spec := fun args ins => match args, ins with
  | [], [] => some out50
  | _, _ => none
def G50 := addG G52 50 sp50
def P50  : Prop :=
  ∀ (b : Bool), true = b → ((b = true → b = true ∧ b = true) ∧ (b = true → b = true)) ∧ (bif b then Ty.eqb (Ty.arr (4 : Nat) (Ty.int IntKind.i64)) (findV (List.set (List.set (List.set (List.set (List.replicate (4 : Nat) (0
  : Int)) (0 : Nat) (100 : Int)) (1 : Nat) (-50 : Int)) (2 : Nat) (0 : Int)) (3 : Nat) (7 : Int)) (5 : Int) (4 : Int)) ((3 : Int) :: List.set (List.set (List.set (List.replicate (nat_lit 3) (0 : Int)) (nat_lit 0) (-1 :
  Int)) (nat_lit 1) (0 : Int)) (nat_lit 2) (0 : Int)) else false) = true
theorem vc50 : P50  = vcFun C50 (ann50 ) Go.Proofs.Try.f50 [] [] out50 := by kernel_rfl

end Go.SL.A

/- Pulse: coefficients, distances, what is found. -/
namespace Go.SL.A
open Go Go.SL Go.SL.S

theorem hw98 {y : List Int} {s : Int} (hw : Go.SL.allP (List.flatMap (fun a : AV => a.t.wf a.x) [⟨.arr 4 (.int .i64), y⟩, ⟨.int .i64, s⟩] ++ List.flatMap Blk.wf [])) : y.length = 4 := by
  simp only [List.flatMap_cons, List.flatMap_nil, Ty.wf, List.append_nil, List.cons_append, List.nil_append, Go.SL.allP] at hw
  exact hw.1
theorem hw54 {c y : List Int} {s : Int} (hw : Go.SL.allP (List.flatMap (fun a : AV => a.t.wf a.x) [⟨.arr 4 (.int .i64), c⟩, ⟨.arr 4 (.int .i64), y⟩, ⟨.int .i64, s⟩] ++ List.flatMap Blk.wf [])) : c.length = 4 ∧ y.length = 4 := by
  simp only [List.flatMap_cons, List.flatMap_nil, Ty.wf, List.append_nil, List.cons_append, List.nil_append, Go.SL.allP] at hw
  exact ⟨hw.1, hw.2.2.1⟩
theorem hw52 {c : List Int} {s k : Int} (hw : Go.SL.allP (List.flatMap (fun a : AV => a.t.wf a.x) [⟨.arr 4 (.int .i64), c⟩, ⟨.int .i64, s⟩, ⟨.int .i64, k⟩] ++ List.flatMap Blk.wf [])) : c.length = 4 := by
  simp only [List.flatMap_cons, List.flatMap_nil, Ty.wf, List.append_nil, List.cons_append, List.nil_append, Go.SL.allP] at hw
  exact hw.1

theorem gain_fits (s : Int) : 0 ≤ gainF s ∧ gainF s ≤ 32768 := by
  unfold gainF
  split
  · omega
  · rcases gain_cases (s := s) (by omega) with rfl | rfl | rfl | rfl | rfl | rfl | rfl | rfl | rfl | rfl | rfl | rfl | rfl | rfl | rfl | rfl <;> decide

theorem gain_pos {s : Int} (h : 0 ≤ s ∧ s ≤ 15) : 0 < gainF s := by
  rcases gain_cases h with rfl | rfl | rfl | rfl | rfl | rfl | rfl | rfl | rfl | rfl | rfl | rfl | rfl | rfl | rfl | rfl <;> decide

theorem gain_zero {s : Int} (h : gainF s = 0) : ¬ (0 ≤ s ∧ s ≤ 15) := fun h' => by have := gain_pos h'; omega

theorem fewF_step {c : List Int} {i : Nat} (hi : i < c.length) : fewF (c.take (i + 1)) = (fewF (c.take i) && decide (-12 ≤ c.getD i 0 ∧ c.getD i 0 ≤ 12)) := by
  unfold fewF; rw [take_snoc' 0 hi, List.all_append]; simp

theorem fewF_not {c : List Int} {i : Nat} (hi : i < c.length) (h : ¬ (-12 ≤ c.getD i 0 ∧ c.getD i 0 ≤ 12)) : fewF c = false := by
  unfold fewF
  rw [List.all_eq_false]
  exact ⟨c.getD i 0, getD_mem hi, by simpa using h⟩

theorem fewF_at {c : List Int} (h : fewF c = true) (i : Nat) : -12 ≤ c.getD i 0 ∧ c.getD i 0 ≤ 12 := by
  by_cases hi : i < c.length
  · unfold fewF at h
    rw [List.all_eq_true] at h
    simpa using h _ (getD_mem (d := 0) hi)
  · rw [List.getD_eq_getElem?_getD, List.getElem?_eq_none (by omega)]; simp

theorem heldF_at {c : List Int} (h : heldF c = true) (i : Nat) : -1048576 ≤ c.getD i 0 ∧ c.getD i 0 ≤ 1048576 := by
  by_cases hi : i < c.length
  · unfold heldF at h
    rw [List.all_eq_true] at h
    simpa using h _ (getD_mem (d := 0) hi)
  · rw [List.getD_eq_getElem?_getD, List.getElem?_eq_none (by omega)]; simp


theorem pure98 (y : List Int) (s : Int) (hl : y.length = 4) : P98 y s := by
  unfold P98
  simp only [eq_self, true_and, Int.toNat_natCast]
  refine ⟨0, ⟨rfl, by omega, rfl⟩, fun i ⟨hi, hh⟩ _ => ?_⟩
  by_cases h4 : (i : Int) < 4
  · have hi4 : i < y.length := by omega
    rw [step_i (by omega)]
    simp only [h4, decide_true, cond_true]
    refine ⟨by omega, ?_⟩
    rintro _ rfl
    refine ⟨by simp, ?_⟩
    by_cases b1 : y.getD i 0 < -12
    · simp only [b1, decide_true, cond_true]; unfold mayF14; rw [fewF_not hi4 (by omega)]; rfl
    · by_cases b2 : 12 < y.getD i 0
      · simp only [b1, b2, decide_true, decide_false, cond_true, cond_false]; unfold mayF14; rw [fewF_not hi4 (by omega)]; rfl
      · simp only [b1, b2, decide_false, cond_false]
        refine ⟨i + 1, rfl, ⟨by omega, ?_⟩, by omega⟩
        rw [fewF_step hi4, hh, Bool.true_and, decide_eq_true_eq]; omega
  · have : i = 4 := by omega
    subst this
    simp only [h4, decide_false, cond_false]
    rw [List.take_of_length_le (by omega)] at hh
    unfold mayF14; rw [hh, Bool.true_and]

theorem mul_fits {x g : Int} (h1 : -12 ≤ x ∧ x ≤ 12) (h2 : 0 ≤ g ∧ g ≤ 32768) : -393216 ≤ x * g ∧ x * g ≤ 393216 := by
  have a : x * g ≤ 12 * g := Int.mul_le_mul_of_nonneg_right h1.2 h2.1
  have b : -12 * g ≤ x * g := Int.mul_le_mul_of_nonneg_right h1.1 h2.1
  omega

theorem coefF_may {y : List Int} {s : Int} (h : mayF14 y s = true) : coefF y s = y.map (· * gainF s) := by unfold coefF; rw [if_pos h]

theorem getD_map0 (y : List Int) (g : Int) (i : Nat) : (y.map (· * g)).getD i 0 = y.getD i 0 * g := by
  simp only [List.getD_eq_getElem?_getD, List.getElem?_map]
  cases y[i]? with
  | none => simp
  | some x => rfl

theorem mayF14_few {y : List Int} {s : Int} (h : mayF14 y s = true) : fewF y = true := by
  unfold mayF14 at h; rw [Bool.and_eq_true] at h; exact h.1

theorem coefF_at (y : List Int) (s : Int) (i : Nat) : -393216 ≤ (coefF y s).getD i 0 ∧ (coefF y s).getD i 0 ≤ 393216 := by
  unfold coefF
  split
  · rename_i h
    rw [getD_map0]
    exact mul_fits (fewF_at (mayF14_few h) i) (gain_fits s)
  · match i with
    | 0 => decide
    | 1 => decide
    | 2 => decide
    | 3 => decide
    | i + 4 => simp

theorem pure63 (y : List Int) (s : Int) (hl : y.length = 4) : P63 y s := by
  unfold P63
  cases hm : mayF14 y s with
  | false =>
    simp only [Bool.not_false, cond_true]
    unfold coefF; rw [if_neg (by simp [hm])]; simp [List.replicate]
  | true =>
    simp only [Bool.not_true, cond_false, eq_self, true_and, and_true, Int.toNat_natCast]
    refine ⟨0, ⟨⟨rfl, rfl, rfl⟩, by omega⟩, fun i hi _ => ?_⟩
    by_cases h4 : (i : Int) < 4
    · have hi4 : i < y.length := by omega
      simp only [h4, decide_true, cond_true]
      refine ⟨by omega, ⟨by omega, by omega⟩, i + 1, ⟨step_i (by omega), rfl, ?_⟩, by omega, by omega⟩
      have hx := mul_fits (fewF_at (mayF14_few hm) i) (gain_fits s)
      rw [w64 (by omega) (by omega)]
      refine set_step (by simpa using hi4) (by simp; omega) ?_
      rw [← getD_map0, List.getD_eq_getElem?_getD]
      simp [hi4]
    · have : i = 4 := by omega
      subst this
      simp only [h4, decide_false, cond_false]
      rw [coefF_may hm]
      show List.take 4 _ ++ List.drop 4 _ = _
      rw [List.take_of_length_le (by simp [hl])]; simp

theorem farTo_fits {c x : List Int} (hc : ∀ i, -1048576 ≤ c.getD i 0 ∧ c.getD i 0 ≤ 1048576) (hx : ∀ i, -393216 ≤ x.getD i 0 ∧ x.getD i 0 ≤ 393216) : ∀ i, 0 ≤ farTo c x i ∧ farTo c x i ≤ (i : Int) * 2000000
  | 0 => by simp [farTo]
  | i + 1 => by
    have h := farTo_fits hc hx i
    have h1 := hc i
    have h2 := hx i
    have h3 := absF_le (c.getD i 0 - x.getD i 0)
    rw [farTo]; omega

theorem pure54 (c y : List Int) (s : Int) (hl : c.length = 4 ∧ y.length = 4) : P54 c y s := by
  unfold P54 distF
  cases hm : mayF14 y s with
  | false => simp
  | true =>
    cases hh : heldF c with
    | false => simp
    | true =>
      simp only [Bool.not_true, cond_false, eq_self, true_and, and_true, Int.toNat_natCast, Bool.and_self, if_true]
      refine ⟨0, ⟨⟨rfl, rfl⟩, by omega⟩, fun i hi _ => ?_⟩
      by_cases h4 : (i : Int) < 4
      · simp only [h4, decide_true, cond_true]
        have h1 := heldF_at hh i
        have h2 := coefF_at y s i
        have h3 := farTo_fits (heldF_at hh) (coefF_at y s) i
        have h5 := absF_le (c.getD i 0 - (coefF y s).getD i 0)
        rw [w64 (n := c.getD i 0 - (coefF y s).getD i 0) (by omega) (by omega), w64 (n := farTo c (coefF y s) i + absF (c.getD i 0 - (coefF y s).getD i 0)) (by omega) (by omega)]
        exact ⟨by omega, ⟨by omega, by omega, by omega⟩, i + 1, ⟨rfl, step_i (by omega)⟩, by omega, by omega⟩
      · have : i = 4 := by omega
        subst this
        simp only [h4, decide_false, cond_false]

theorem gain_step {i : Nat} (h : i < 15) : gainF ((i + 1 : Nat) : Int) = 2 * gainF (i : Int) := by
  unfold gainF
  rw [if_neg (by omega), if_neg (by omega)]
  simp only [Int.toNat_natCast]
  rw [Int.pow_succ]; omega

theorem pure97 (s : Int) (h : 0 ≤ s ∧ s ≤ 15) : P97 s := by
  unfold P97
  simp only [eq_self, true_and, and_true]
  refine ⟨0, ⟨⟨by decide, rfl⟩, by simp; omega⟩, fun i hi _ => ?_⟩
  have hg := gain_fits (i : Int)
  by_cases h4 : (i : Int) < s
  · simp only [h4, decide_true, cond_true]
    refine ⟨i + 1, ⟨?_, step_i (by omega)⟩, by omega, by omega⟩
    rw [gain_step (by omega), w64 (by omega) (by omega)]
  · have : (i : Int) = s := by omega
    simp only [h4, decide_false, cond_false]
    rw [this]

theorem szR_abs (x : Int) (h : -9223372036854775807 ≤ x ∧ x ≤ 9223372036854775807) : szR x = absF x := by
  unfold szR absF
  split
  · first | (rw [w64 (by omega) (by omega)]; omega) | omega
  · omega

theorem pure53 (c y : List Int) (s : Int) (hs : 0 ≤ s ∧ s ≤ 15) (hcy : heldF c = true ∧ fewF y = true) (hl : c.length = 4 ∧ y.length = 4) : P53 c y s := by
  obtain ⟨hh, hf⟩ := hcy
  have hm : mayF14 y s = true := by
    unfold mayF14; rw [hf, Bool.true_and, decide_eq_true_eq]; exact gain_pos hs
  unfold P53
  simp only [eq_self, true_and, and_true, Int.toNat_natCast]
  refine ⟨0, ⟨⟨rfl, rfl⟩, by omega⟩, fun i hi _ => ?_⟩
  by_cases h4 : (i : Int) < 4
  · simp only [h4, decide_true, cond_true]
    have h1 := heldF_at hh i
    have h2 := coefF_at y s i
    have h3 := farTo_fits (heldF_at hh) (coefF_at y s) i
    have h5 := absF_le (c.getD i 0 - (coefF y s).getD i 0)
    have h6 : y.getD i 0 * gainF s = (coefF y s).getD i 0 := by rw [coefF_may hm, getD_map0]
    rw [h6, w64 (n := (coefF y s).getD i 0) (by omega) (by omega), w64 (n := c.getD i 0 - (coefF y s).getD i 0) (by omega) (by omega), szR_abs _ (by omega), w64 (n := farTo c (coefF y s) i + absF (c.getD i 0 - (coefF y s).getD i 0)) (by omega) (by omega)]
    exact ⟨⟨by omega, by omega, by omega, by omega, hs⟩, i + 1, ⟨rfl, step_i (by omega)⟩, by omega, by omega⟩
  · have : i = 4 := by omega
    subst this
    simp only [h4, decide_false, cond_false]

theorem pure51 (c : List Int) (hl : c.length = 4) : P51 c := by
  unfold P51
  simp only [eq_self, true_and, and_true, Int.toNat_natCast]
  refine ⟨0, ⟨⟨rfl, rfl, rfl⟩, by omega⟩, fun i hi _ => ?_⟩
  have hL : (heldL c).length = 4 := by simp [heldL, hl]
  by_cases h4 : (i : Int) < 4
  · simp only [h4, decide_true, cond_true]
    have hi4 : i < c.length := by omega
    refine ⟨⟨by omega, by omega, by decide, by omega, by omega⟩, i + 1, ⟨step_i (by omega), ?_, rfl⟩, by omega, by omega⟩
    have e : ((heldL c).take i ++ c.drop i).getD i 0 = c.getD i 0 := by
      simp only [List.getD_eq_getElem?_getD]
      rw [List.getElem?_append_right (by simp; omega), List.length_take, hL, Nat.min_eq_left (by omega), Nat.sub_self, List.getElem?_drop, Nat.add_zero]
    rw [e]
    refine set_step (by omega) hi4 ?_
    simp [heldL, hi4]
  · have : i = 4 := by omega
    subst this
    simp only [h4, decide_false, cond_false]
    show List.take 4 _ ++ List.drop 4 _ = _
    rw [List.take_of_length_le (by omega), List.drop_eq_nil_of_le (by omega), List.append_nil]

theorem FI.ok {c : List Int} {g : Int} {k : Nat} {s : List W × List Int} (h : FI c g k s) (hc : heldF c = true) (hg : 0 ≤ g ∧ g ≤ 32768) (hk : k ≤ 99) : ∀ w ∈ s.1, okW w ∧ w.2.2.1 ≤ k := by
  intro w hw
  have hw := h.perm.subset hw
  have hs := h.sum
  have n0 := absF_le (s.2.getD 0 0)
  have n1 := absF_le (s.2.getD 1 0)
  have n2 := absF_le (s.2.getD 2 0)
  have n3 := absF_le (s.2.getD 3 0)
  have c0 := heldF_at hc 0
  have c1 := heldF_at hc 1
  have c2 := heldF_at hc 2
  have c3 := heldF_at hc 3
  have a0 := absF_le (c.getD 0 0)
  have a1 := absF_le (c.getD 1 0)
  have a2 := absF_le (c.getD 2 0)
  have a3 := absF_le (c.getD 3 0)
  simp only [wsF, List.mem_cons, List.not_mem_nil, or_false] at hw
  unfold okW
  rcases hw with rfl | rfl | rfl | rfl <;> simp only <;> omega

theorem pushTo_len (c : List Int) (g : Int) : ∀ k, (pushTo c g k).length = k
  | 0 => rfl
  | k + 1 => by rw [pushTo, pushL_len, pushTo_len c g k]

theorem pushTo_mem (c : List Int) (g : Int) : ∀ k, ∀ w ∈ pushTo c g k, ∃ i : Nat, w = ((i : Int), absF (c.getD i 0), 0, g)
  | 0, w, h => by cases h
  | k + 1, w, h => by
    rw [pushTo] at h
    rcases List.mem_append.1 ((pushL_perm ltW wz _ _).subset h) with h | h
    · exact pushTo_mem c g k w h
    · exact ⟨k, List.mem_singleton.1 h⟩

theorem pure52 (c : List Int) (s k : Int) (hl : c.length = 4) : P52 c s k := by
  unfold P52
  rintro b hb b1 hb1
  have hE : findE c s k = if gainF s = 0 ∨ k < 0 ∨ 12 < k then 1 else if heldF c then 0 else 7 := rfl
  have hg := gain_fits s
  refine ⟨by cases b <;> cases b1 <;> simp, ?_⟩
  by_cases harg : gainF s = 0 ∨ k < 0 ∨ 12 < k
  · have e1 : (bif b1 then true else decide (12 < k)) = true := by
      rw [← hb1, ← hb]
      by_cases h1 : gainF s = 0
      · simp [h1]
      · by_cases h2 : k < 0
        · simp [h1, h2]
        · have h3 : 12 < k := by omega
          simp [h1, h2, h3]
    rw [if_pos harg] at hE
    rw [e1, cond_true]
    unfold findV
    rw [hE, if_neg (by decide)]
    simp [List.replicate]
  · have e1 : (bif b1 then true else decide (12 < k)) = false := by
      rw [← hb1, ← hb]
      have h1 : ¬ gainF s = 0 := fun h => harg (.inl h)
      have h2 : ¬ k < 0 := fun h => harg (.inr (.inl h))
      have h3 : ¬ 12 < k := fun h => harg (.inr (.inr h))
      simp [h1, h2, h3]
    rw [if_neg harg] at hE
    rw [e1, cond_false]
    clear e1 hb hb1
    cases hh : heldF c with
    | false =>
      rw [hh] at hE
      simp only [Bool.not_false, cond_true]
      unfold findV
      rw [hE, if_neg (by decide)]
      simp [List.replicate]
    | true =>
      rw [hh, if_pos rfl] at hE
      simp only [Bool.not_true, cond_false, eq_self, true_and, and_true, Int.toNat_natCast]
      have hV : findV c s k = (iterF c (pushTo c (gainF s) 4, [0, 0, 0, 0]) k.toNat).2 := by unfold findV; rw [if_pos hE]; rfl
      rw [hV, hE]
      generalize gainF s = g at *
      refine ⟨0, ⟨⟨rfl, rfl, rfl, rfl⟩, by omega⟩, fun i hi _ => ?_⟩
      by_cases h4 : (i : Int) < 4
      · simp only [h4, decide_true, cond_true]
        have hc := heldF_at hh i
        have ha := absF_le (c.getD i 0)
        refine ⟨by omega, ⟨by omega, ⟨(pushTo_len c g i).symm, by omega⟩, ?_, fun w hw => ?_⟩, i + 1, ⟨step_i (by omega), rfl, rfl, rfl⟩, by omega, by omega⟩
        · unfold okW; simp only; omega
        · obtain ⟨j, rfl⟩ := pushTo_mem c g i w hw
          have hc := heldF_at hh j
          have ha := absF_le (c.getD j 0)
          unfold okW; simp only; omega
      · have : i = 4 := by omega
        subst this
        simp only [h4, decide_false, cond_false]
        refine ⟨(0, pushTo c g 4, [0, 0, 0, 0]), ⟨⟨rfl, rfl, rfl, rfl⟩, by simp, rfl⟩, fun x hx _ => ?_⟩
        obtain ⟨j, l, y⟩ := x
        obtain ⟨hj, he⟩ := hx
        simp only at hj he ⊢
        have F := FI.iter c hg.1 j
        rw [← he] at F
        by_cases hjk : (j : Int) < k
        · simp only [hjk, decide_true, cond_true]
          have hl4 : l.length = 4 := by rw [F.perm.length_eq]; rfl
          have hok := FI.ok F hh hg (by omega)
          obtain ⟨a, ha, h0, _, _⟩ := F.at0
          simp only at h0 hok
          have hm := hok _ (getD_mem (d := wz) (show 0 < l.length by omega))
          have hn : 0 ≤ (l.getD 0 wz).2.2.1 ∧ (l.getD 0 wz).2.2.1 ≤ j := ⟨hm.1.2.2.1, hm.2⟩
          have hz : ((0 : Int), (0 : Int), (0 : Int), (0 : Int)) = wz := rfl
          simp only [hz]
          have hC : ((l.getD 0 wz).1, (l.getD 0 wz).2.1, IntKind.i64.wrap ((l.getD 0 wz).2.2.1 + 1), (l.getD 0 wz).2.2.2) = bump (l.getD 0 wz) := by
            unfold bump; rw [w64 (by omega) (by omega)]
          rw [hC]
          have hD : (l.set 0 (bump (l.getD 0 wz))).getD 0 wz = bump (l.getD 0 wz) := by
            simp [hl4]
          have hat : (bump (l.getD 0 wz)).1 = (a : Int) := by unfold bump; rw [h0]
          rw [hD, hat]
          simp only [Int.toNat_natCast, List.length_set, hl4]
          have hokD : ∀ w, List.Mem w (l.set 0 (bump (l.getD 0 wz))) → okW w := by
            intro w hw
            rcases List.mem_or_eq_of_mem_set hw with h | h
            · exact (hok w h).1
            · rw [h]; have := hm.1; unfold okW at this ⊢; unfold bump; simp only; omega
          have hy : -100 ≤ y.getD a 0 ∧ y.getD a 0 ≤ 100 := by
            have := absF_le (y.getD a 0)
            rw [h0] at hn
            simp only at hn; omega
          have hst : ∀ v, (c.getD a 0 < 0 → v = y.getD a 0 - 1) → (¬ c.getD a 0 < 0 → v = y.getD a 0 + 1) →
              (fixL ltW wz (l.set 0 (bump (l.getD 0 wz))), y.set a v) = iterF c (pushTo c g 4, [0, 0, 0, 0]) (j + 1) := by
            intro v h1 h2
            rw [iterF, ← he]
            unfold stepF stepY
            simp only
            rw [show (l.getD 0 wz).1.toNat = a by rw [h0]; simp]
            by_cases hc : c.getD a 0 < 0
            · rw [if_pos hc, h1 hc]
            · rw [if_neg hc, h2 hc]
          refine ⟨⟨by omega, by omega, by omega, by omega⟩, ⟨by omega, by omega⟩, ⟨by omega, by omega⟩, ?_⟩
          by_cases hc : c.getD a 0 < 0
          · simp only [hc, decide_true, cond_true]
            rw [w64 (n := y.getD a 0 - 1) (by omega) (by omega)]
            refine ⟨⟨by omega, by omega, by omega, by omega⟩, ⟨⟨trivial, by decide, by decide⟩, hokD⟩, (j + 1, fixL ltW wz (l.set 0 (bump (l.getD 0 wz))), y.set a (y.getD a 0 - 1)), ⟨step_i (by omega), rfl, rfl, rfl⟩, ⟨by simp only; omega, ?_⟩, by simp only; omega⟩
            exact hst _ (fun _ => rfl) (fun h => absurd hc h)
          · simp only [hc, decide_false, cond_false]
            rw [w64 (n := y.getD a 0 + 1) (by omega) (by omega)]
            refine ⟨⟨by omega, by omega, by omega, by omega⟩, ⟨⟨trivial, by decide, by decide⟩, hokD⟩, (j + 1, fixL ltW wz (l.set 0 (bump (l.getD 0 wz))), y.set a (y.getD a 0 + 1)), ⟨step_i (by omega), rfl, rfl, rfl⟩, ⟨by simp only; omega, ?_⟩, by simp only; omega⟩
            exact hst _ (fun h => absurd h hc) (fun _ => rfl)
        · have : j = k.toNat := by omega
          subst this
          simp only [hjk, decide_false, cond_false]
          rw [← he]
          exact ⟨rfl, trivial⟩

theorem pure50 : P50 := by
  unfold P50
  rintro b rfl
  simp only [forall_const, and_self, true_and, cond_true]
  decide +kernel
end Go.SL.A

/- Functions do what they are held to do. -/
namespace Go.SL.A
open Go Go.SL Go.SL.S
theorem snd98 : Sound Go.Proofs.Try.prog G98 := snd96.add ⟨_, Go.Proofs.Try.func98, by kernel_rfl, by kernel_rfl⟩ (by
  intro args ins out h hp
  unfold sp98 at h
  split at h
  · rename_i y s
    cases h
    exact vcFun_ok (C := C98) good snd96 methOk mix Go.Proofs.Try.func98 (ann98 y s) (fun hw => by rw [← vc98 y s]; exact pure98 y s (hw98 hw))
  · cases h)

theorem snd63 : Sound Go.Proofs.Try.prog G63 := snd98.add ⟨_, Go.Proofs.Try.func63, by kernel_rfl, by kernel_rfl⟩ (by
  intro args ins out h hp
  unfold sp63 at h
  split at h
  · rename_i y s
    cases h
    exact vcFun_ok (C := C63) good snd98 methOk mix Go.Proofs.Try.func63 (ann63 y s) (fun hw => by rw [← vc63 y s]; exact pure63 y s (hw98 hw))
  · cases h)

theorem snd54 : Sound Go.Proofs.Try.prog G54 := snd63.add ⟨_, Go.Proofs.Try.func54, by kernel_rfl, by kernel_rfl⟩ (by
  intro args ins out h hp
  unfold sp54 at h
  split at h
  · rename_i c y s
    cases h
    exact vcFun_ok (C := C54) good snd63 methOk mix Go.Proofs.Try.func54 (ann54 c y s) (fun hw => by rw [← vc54 c y s]; exact pure54 c y s (hw54 hw))
  · cases h)

theorem snd97 : Sound Go.Proofs.Try.prog G97 := snd54.add ⟨_, Go.Proofs.Try.func97, by kernel_rfl, by kernel_rfl⟩ (by
  intro args ins out h hp
  unfold sp97 at h
  split at h
  · rename_i s
    cases h
    exact vcFun_ok (C := C97) good snd54 methOk mix Go.Proofs.Try.func97 (ann97 s) (fun hw => by rw [← vc97 s]; exact pure97 s hp)
  · cases h)

theorem snd53 : Sound Go.Proofs.Try.prog G53 := snd97.add ⟨_, Go.Proofs.Try.func53, by kernel_rfl, by kernel_rfl⟩ (by
  intro args ins out h hp
  unfold sp53 at h
  split at h
  · rename_i c y s
    cases h
    exact vcFun_ok (C := C53) good snd97 methOk mix Go.Proofs.Try.func53 (ann53 c y s) (fun hw => by rw [← vc53 c y s]; exact pure53 c y s hp.1 hp.2 (hw54 hw))
  · cases h)

theorem snd51 : Sound Go.Proofs.Try.prog G51 := snd53.add ⟨_, Go.Proofs.Try.func51, by kernel_rfl, by kernel_rfl⟩ (by
  intro args ins out h hp
  unfold sp51 at h
  split at h
  · rename_i c
    cases h
    exact vcFun_ok (C := C51) good snd53 methOk mix Go.Proofs.Try.func51 (ann51 c) (fun hw => by rw [← vc51 c]; exact pure51 c (hw93 hw))
  · cases h)

theorem snd52 : Sound Go.Proofs.Try.prog G52 := snd51.add ⟨_, Go.Proofs.Try.func52, by kernel_rfl, by kernel_rfl⟩ (by
  intro args ins out h hp
  unfold sp52 at h
  split at h
  · rename_i c s k
    cases h
    exact vcFun_ok (C := C52) good snd51 methOk mix Go.Proofs.Try.func52 (ann52 c s k) (fun hw => by rw [← vc52 c s k]; exact pure52 c s k (hw52 hw))
  · cases h)

theorem snd50 : Sound Go.Proofs.Try.prog G50 := snd52.add ⟨_, Go.Proofs.Try.func50, by kernel_rfl, by kernel_rfl⟩ (by
  intro args ins out h hp
  unfold sp50 at h
  split at h
  · cases h
    exact vcFun_ok (C := C50) good snd52 methOk mix Go.Proofs.Try.func50 (ann50 ) (fun hw => by rw [← vc50 ]; exact pure50)
  · cases h)

end Go.SL.A

/- What is found, and how far it is: plain laws. -/
namespace Go.SL.A
open Go Go.SL Go.SL.S

theorem hwL14 {c : List Int} {s k : Int} (hw : Go.SL.allP (List.flatMap (fun a : AV => a.t.wf a.x) [⟨.arr 4 (.int .i64), c⟩, ⟨.int .u8, s⟩, ⟨.int .u8, k⟩] ++ List.flatMap Blk.wf [])) : c.length = 4 ∧ (0 ≤ s ∧ s ≤ 255) ∧ 0 ≤ k ∧ k ≤ 255 := by
  simp only [List.flatMap_cons, List.flatMap_nil, Ty.wf, List.append_nil, List.cons_append, List.nil_append, Go.SL.allP] at hw
  exact ⟨hw.1, ⟨hw.2.2.1, hw.2.2.2.1⟩, hw.2.2.2.2.1, hw.2.2.2.2.2⟩
theorem hw19 {k i s : Int} (hw : Go.SL.allP (List.flatMap (fun a : AV => a.t.wf a.x) [⟨.int .u8, k⟩, ⟨.int .u32, i⟩, ⟨.int .u8, s⟩] ++ List.flatMap Blk.wf [])) : (0 ≤ k ∧ k ≤ 255) ∧ (0 ≤ i ∧ i ≤ 4294967295) ∧ 0 ≤ s ∧ s ≤ 255 := by
  simp only [List.flatMap_cons, List.flatMap_nil, Ty.wf, List.append_nil, List.cons_append, List.nil_append, Go.SL.allP] at hw
  exact ⟨⟨hw.1, hw.2.1⟩, ⟨hw.2.2.1, hw.2.2.2.1⟩, hw.2.2.2.2.1, hw.2.2.2.2.2⟩
theorem hw20 {c : List Int} {s k i : Int} (hw : Go.SL.allP (List.flatMap (fun a : AV => a.t.wf a.x) [⟨.arr 4 (.int .i64), c⟩, ⟨.int .u8, s⟩, ⟨.int .u8, k⟩, ⟨.int .u32, i⟩] ++ List.flatMap Blk.wf [])) : c.length = 4 ∧ (0 ≤ s ∧ s ≤ 255) ∧ (0 ≤ k ∧ k ≤ 255) ∧ 0 ≤ i ∧ i ≤ 4294967295 := by
  simp only [List.flatMap_cons, List.flatMap_nil, Ty.wf, List.append_nil, List.cons_append, List.nil_append, Go.SL.allP] at hw
  exact ⟨hw.1, ⟨hw.2.2.1, hw.2.2.2.1⟩, ⟨hw.2.2.2.2.1, hw.2.2.2.2.2.1⟩, hw.2.2.2.2.2.2.1, hw.2.2.2.2.2.2.2⟩

theorem heldL_held (c : List Int) : heldF (heldL c) = true := by
  unfold heldF heldL
  rw [List.all_eq_true]
  intro x hx
  obtain ⟨y, -, rfl⟩ := List.mem_map.1 hx
  have := tdm y (k := 1048577) (by decide)
  simp only [decide_eq_true_eq]; omega
theorem heldL_len {c : List Int} (h : c.length = 4) : (heldL c).length = 4 := by simp [heldL, h]

theorem sz_abs {x : Int} (h : -12 ≤ x ∧ x ≤ 12) : sz13 x = absF x := by rw [sz13_small h.1 h.2]; rfl

theorem sum_sz {y : List Int} (hl : y.length = 4) (hf : ∀ i, -12 ≤ y.getD i 0 ∧ y.getD i 0 ≤ 12) : sumSz y = sumF y := by
  obtain ⟨a, b, c, d, rfl⟩ := len4 hl
  have h0 := hf 0
  have h1 := hf 1
  have h2 := hf 2
  have h3 := hf 3
  simp only [sumSz, sumF] at *
  have e0 := sz_abs h0
  have e1 := sz_abs h1
  have e2 := sz_abs h2
  have e3 := sz_abs h3
  simp only [List.getD_cons_zero, List.getD_cons_succ] at *
  omega

/-- What is found. -/
structure Found (c : List Int) (s k : Int) (y : List Int) : Prop where
  len : y.length = 4
  few : fewF y = true
  sg : ∀ i, i < 4 → sgn (c.getD i 0) (y.getD i 0)
  sum : sumF y = k
  best : ∀ z, sumF z = k → farF c y (gainF s) ≤ farF c z (gainF s)

theorem few_of {y : List Int} (h : ∀ i, -12 ≤ y.getD i 0 ∧ y.getD i 0 ≤ 12) : fewF y = true := by
  unfold fewF
  rw [List.all_eq_true]
  intro x hx
  obtain ⟨i, hi, rfl⟩ := List.mem_iff_getElem.1 hx
  have := h i
  rw [List.getD_eq_getElem?_getD, List.getElem?_eq_getElem hi] at this
  simpa using this

theorem findV_ok {c : List Int} {s k : Int} (hh : heldF c = true) (hs : 0 ≤ s ∧ s ≤ 15) (hk : 0 ≤ k ∧ k ≤ 12) : findE c s k = 0 ∧ Found c s k (findV c s k) := by
  have hg := gain_pos hs
  have hE : findE c s k = 0 := by
    unfold findE
    rw [if_neg (by omega), hh, if_pos rfl]
  have F := FI.iter c (g := gainF s) (by omega) k.toNat
  have hb := find_best c (g := gainF s) (by omega) k.toNat
  have hV : findV c s k = findF c (gainF s) k.toNat := by unfold findV; rw [if_pos hE]
  refine ⟨hE, ?_⟩
  rw [hV]
  have hs := F.sum
  have hl := F.len
  have hsg := F.sg
  change (findF c (gainF s) k.toNat).length = 4 at hl
  change absF ((findF c (gainF s) k.toNat).getD 0 0) + absF ((findF c (gainF s) k.toNat).getD 1 0) + absF ((findF c (gainF s) k.toNat).getD 2 0) + absF ((findF c (gainF s) k.toNat).getD 3 0) = _ at hs
  change ∀ i, i < 4 → sgn (c.getD i 0) ((findF c (gainF s) k.toNat).getD i 0) at hsg
  generalize findF c (gainF s) k.toNat = y at *
  refine ⟨hl, few_of fun i => ?_, hsg, by unfold sumF; omega, fun z hz => hb z (by rw [hz]; omega)⟩
  have a0 := absF_le (y.getD 0 0)
  have a1 := absF_le (y.getD 1 0)
  have a2 := absF_le (y.getD 2 0)
  have a3 := absF_le (y.getD 3 0)
  match i with
  | 0 => omega
  | 1 => omega
  | 2 => omega
  | 3 => omega
  | i + 4 => rw [List.getD_eq_getElem?_getD, List.getElem?_eq_none (by omega)]; simp

theorem Found.pulses {c : List Int} {s k : Int} {y : List Int} (h : Found c s k y) (hk : k ≤ 12) : pulsesF y = k := by
  unfold pulsesF
  rw [if_neg (by rw [h.len]; decide), sum_sz h.len (fewF_at h.few), h.sum]; omega

theorem farTo_far {c y : List Int} {s : Int} (hs : 0 ≤ s ∧ s ≤ 15) (hf : fewF y = true) : farTo c (coefF y s) 4 = farF c y (gainF s) := by
  have hm : mayF14 y s = true := by unfold mayF14; rw [hf, Bool.true_and, decide_eq_true_eq]; exact gain_pos hs
  rw [coefF_may hm]
  simp only [farTo, farF, getD_map0]; omega

theorem distF_far {c y : List Int} {s : Int} (hs : 0 ≤ s ∧ s ≤ 15) (hf : fewF y = true) (hh : heldF c = true) : distF c y s = farF c y (gainF s) := by
  have hm : mayF14 y s = true := by unfold mayF14; rw [hf, Bool.true_and, decide_eq_true_eq]; exact gain_pos hs
  unfold distF
  rw [hm, hh]
  exact farTo_far hs hf

/-- A vector of four numbers. -/
theorem vec4 {k i : Int} (hk : 0 ≤ k ∧ k ≤ 12) (hi : 0 ≤ i) (hi2 : i < countF 4 k) : vecE 4 k i = 0 ∧ (vecF 4 k i).length = 4 ∧ fewF (vecF 4 k i) = true ∧ sumF (vecF 4 k i) = k := by
  obtain ⟨v1, v2, v3, v4, v5, v6⟩ := vec_ok (n := 4) (k := k) (i := i) (by omega) hi hi2
  have hl : (vecF 4 k i).length = 4 := by omega
  have hm := vst_ok (n := 4) (k := k) (i := i) (by omega) hk.1 hk.2 hi (by
    unfold countF at hi2; rw [if_pos (may_iff.2 (by omega))] at hi2; exact hi2) 4 (by omega)
  have hr := hm.1.rng
  have hv : vecF 4 k i = (vst 4 k i 4).2.2 := by unfold vecF; rw [if_pos ⟨may_iff.2 (by omega), hi, hi2⟩]; rfl
  have hf : ∀ j, -12 ≤ (vecF 4 k i).getD j 0 ∧ (vecF 4 k i).getD j 0 ≤ 12 := by
    intro j
    rw [hv] at hl ⊢
    by_cases hj : j < ((vst 4 k i 4).2.2).length
    · exact hr _ (getD_mem hj)
    · rw [List.getD_eq_getElem?_getD, List.getElem?_eq_none (by omega)]; simp
  exact ⟨v1, hl, few_of hf, by rw [← sum_sz hl hf]; exact v3⟩
end Go.SL.A
