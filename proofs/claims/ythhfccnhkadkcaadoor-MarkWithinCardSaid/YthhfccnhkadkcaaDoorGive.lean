/- Queues, and the functions of the package give, do what they are held to do; what is given. -/
import Derived.Test.YthhfccnhkadkcaaDoorPulse
import Derived.Test.YthhfccnhkadkcaaDoorKb
import Derived.Test.YthhfccnhkadkcaaDoorPvqR
import Derived.Test.YthhfccnhkadkcaaDoorPvq
import Derived.Test.YthhfccnhkadkcaaDoorPvqB

/- Queues: plain functions. -/
namespace Go.SL.S
open Go Go.SL
def qz : Int × Int := (0, 0)
def ltQ (a b : Int × Int) : Bool := decide (b.2 < a.2) || (decide (a.2 = b.2) && decide (a.1 < b.1))
def popL {α : Type} (lt : α → α → Bool) (d : α) (l : List α) : List α := ((downL lt d (l.length - 1) (l.length - 1) (swapL d l 0 (l.length - 1)) 0).1).take (l.length - 1)
theorem ltQ_ord : Ord ltQ where
  asym := fun a b h => by
    simp only [ltQ, Bool.or_eq_true, Bool.and_eq_true, decide_eq_true_eq, Bool.or_eq_false_iff, Bool.and_eq_false_iff, decide_eq_false_iff_not] at h ⊢
    omega
  tr := fun a b c h1 h2 => by
    simp only [ltQ, Bool.or_eq_false_iff, Bool.and_eq_false_iff, decide_eq_false_iff_not] at h1 h2 ⊢
    omega
end Go.SL.S
namespace Go.SL.A
open Go Go.SL
def meth18 : MethT := fun T nm => match Nat.beq T 135 with
  | true => match decide (nm = "Len") with
    | true => some (107, none)
    | false => match decide (nm = "Less") with
      | true => some (152, none)
      | false => match decide (nm = "Swap") with
        | true => some (155, none)
        | false => match decide (nm = "Push") with
          | true => some (154, none)
          | false => match decide (nm = "Pop") with
            | true => some (153, none)
            | false => none
  | false => meth14 T nm
theorem methOk18 : Meth Go.Proofs.Tryd.prog meth18 := by
  intro T nm f o h
  unfold meth18 at h
  split at h
  · rename_i hT
    obtain rfl : T = 135 := Nat.eq_of_beq_eq_true hT
    repeat' split at h
    all_goals cases h
    all_goals (rename_i hn; simp only [decide_eq_true_eq] at hn; subst hn)
    all_goals exact meth_ptr' (U := 139) (by kernel_rfl) (by kernel_rfl)
  · exact methOk T nm f o h
end Go.SL.A

/- Functions and what they are held to do: bound to their code. -/
namespace Go.SL.A
open Go Go.SL Go.SL.S
set_option maxRecDepth 100000
noncomputable def C101 : Ctx := ⟨Go.Proofs.Tryd.prog, D, G97, meth18, fun _ => []⟩
def ann101 (_a _b _c _d : Int) : Nat → St → Option Ann := fun _ _ => none
def out101 (a b c d : Int) : COut := ⟨[], .v .bool (ltQ (a, b) (c, d)), [], []⟩
def sp101 : Spec := fun args ins => match args, ins with
  | [⟨.cons (.int .i64) (.last (.int .i64)), (a, b)⟩, ⟨.cons (.int .i64) (.last (.int .i64)), (c, d)⟩], [] => some (out101 a b c d)
  | _, _ => none
def G101 := addG G97 105 sp101
def P101 (a b c d : Int) : Prop :=
  ∀ (b_1 : Bool), decide (d < b) = b_1 → ∀ (b_2 : Bool), decide (b = d) = b_2 → (((!b_1) = true → (!b_1) = true) ∧ ((!b_1) = true → (!b_1) = true) ∧ ((!b_1) = true → (!b_1) = true ∧ (!b_1) = true) ∧ ((!b_1 && !b_1 && b_2) =
  true → (!b_1 && !b_1 && b_2) = true) ∧ ((!b_1 && !b_1 && b_2) = true → (!b_1 && !b_1 && b_2) = true) ∧ ((!b_1 && !b_1 && b_2) = true → (!b_1 && !b_1 && b_2) = true ∧ (!b_1 && !b_1 && b_2) = true) ∧ ((!b_1) = true → (!b_1
  && !b_1) = true ∧ (b_2 = true → (!b_1 && !b_1 && b_2) = true)) ∧ (b_1 = false → (!b_1) = true)) ∧ (bif b_1 then true else bif b_2 then decide (a < c) else false) = ltQ (a, b) (c, d)
theorem vc101 (a b c d : Int) : P101 a b c d = vcFun C101 (ann101 a b c d) Go.Proofs.Tryd.f105 [⟨.cons (.int .i64) (.last (.int .i64)), (a, b)⟩, ⟨.cons (.int .i64) (.last (.int .i64)), (c, d)⟩] [] (out101 a b c d) := by kernel_rfl

noncomputable def C102 : Ctx := ⟨Go.Proofs.Tryd.prog, D, G101, meth18, fun _ => []⟩
def ann102 (_n : Nat) (_l : List (Int × Int)) : Nat → St → Option Ann := fun _ _ => none
def out102 (n : Nat) (_l : List (Int × Int)) : COut := ⟨[], .v (.int .i64) (n : Int), [], []⟩
def sp102 : Spec := fun args ins => match args, ins with
  | [⟨.ref .ptr, .ptr 0 (.cons (.ref .slice) (.last (.ref .func))) [0]⟩], [⟨false, true, (.cons (.ref .slice) (.last (.ref .func))), [(.slice 1 (.cons (.int .i64) (.last (.int .i64))) [] 0 n, .func (.func 105) [] [])]⟩, ⟨false, false, (.cons (.int .i64) (.last (.int .i64))), l⟩] => some (out102 n l)
  | _, _ => none
def G102 := addG G101 107 sp102
def P102 (n : Nat) (l : List (Int × Int)) : Prop :=
  (↑n : Int) = (↑n : Int) ∧ (0 : Nat) = (0 : Nat) ∧ n = n ∧ false = false ∧ l = l ∧ false = false
theorem vc102 (n : Nat) (l : List (Int × Int)) : P102 n l = vcFun C102 (ann102 n l) Go.Proofs.Tryd.f107 [⟨.ref .ptr, .ptr 0 (.cons (.ref .slice) (.last (.ref .func))) [0]⟩] [⟨false, true, (.cons (.ref .slice) (.last (.ref .func))), [(.slice 1 (.cons (.int .i64) (.last (.int .i64))) [] 0 n, .func (.func 105) [] [])]⟩, ⟨false, false, (.cons (.int .i64) (.last (.int .i64))), l⟩] (out102 n l) := by kernel_rfl

noncomputable def C188 : Ctx := ⟨Go.Proofs.Tryd.prog, D, G102, meth18, fun _ => []⟩
def ann188 (_n : Nat) (_i _j : Int) (_l : List (Int × Int)) : Nat → St → Option Ann := fun _ _ => none
def out188 (n : Nat) (i j : Int) (l : List (Int × Int)) : COut := ⟨[n = l.length, (0 ≤ i ∧ i < n) ∧ 0 ≤ j ∧ j < n], .v .bool (ltQ (l.getD i.toNat qz) (l.getD j.toNat qz)), [], []⟩
def sp188 : Spec := fun args ins => match args, ins with
  | [⟨.ref .ptr, .ptr 0 (.cons (.ref .slice) (.last (.ref .func))) [0]⟩, ⟨.int .i64, i⟩, ⟨.int .i64, j⟩], [⟨false, true, (.cons (.ref .slice) (.last (.ref .func))), [(.slice 1 (.cons (.int .i64) (.last (.int .i64))) [] 0 n, .func (.func 105) [] [])]⟩, ⟨false, false, (.cons (.int .i64) (.last (.int .i64))), l⟩] => some (out188 n i j l)
  | _, _ => none
def G188 := addG G102 152 sp188
def P188 (n : Nat) (i j : Int) (l : List (Int × Int)) : Prop :=
  (((0 : Int) ≤ i ∧ i < (↑n : Int)) ∧ (0 : Nat) + Int.toNat i < List.length l ∧ ((0 : Int) ≤ j ∧ j < (↑n : Int)) ∧ (0 : Nat) + Int.toNat j < List.length l) ∧ ltQ (Prod.fst (List.getD l ((0 : Nat) + Int.toNat i) ((0 : Int),
  (0 : Int))), Prod.snd (List.getD l ((0 : Nat) + Int.toNat i) ((0 : Int), (0 : Int)))) (Prod.fst (List.getD l ((0 : Nat) + Int.toNat j) ((0 : Int), (0 : Int))), Prod.snd (List.getD l ((0 : Nat) + Int.toNat j) ((0 : Int),
  (0 : Int)))) = ltQ (List.getD l (Int.toNat i) qz) (List.getD l (Int.toNat j) qz) ∧ (0 : Nat) = (0 : Nat) ∧ n = n ∧ false = false ∧ l = l ∧ false = false
theorem vc188 (n : Nat) (i j : Int) (l : List (Int × Int)) : P188 n i j l = vcFun C188 (ann188 n i j l) Go.Proofs.Tryd.f152 [⟨.ref .ptr, .ptr 0 (.cons (.ref .slice) (.last (.ref .func))) [0]⟩, ⟨.int .i64, i⟩, ⟨.int .i64, j⟩] [⟨false, true, (.cons (.ref .slice) (.last (.ref .func))), [(.slice 1 (.cons (.int .i64) (.last (.int .i64))) [] 0 n, .func (.func 105) [] [])]⟩, ⟨false, false, (.cons (.int .i64) (.last (.int .i64))), l⟩] (out188 n i j l) := by kernel_rfl

noncomputable def C191 : Ctx := ⟨Go.Proofs.Tryd.prog, D, G188, meth18, fun _ => []⟩
def ann191 (_n : Nat) (_i _j : Int) (_l : List (Int × Int)) : Nat → St → Option Ann := fun _ _ => none
def out191 (n : Nat) (i j : Int) (l : List (Int × Int)) : COut := ⟨[n = l.length, (0 ≤ i ∧ i < n) ∧ 0 ≤ j ∧ j < n], .tup [], [(1, some ⟨false, false, (.cons (.int .i64) (.last (.int .i64))), swapL qz l i.toNat j.toNat⟩)], []⟩
def sp191 : Spec := fun args ins => match args, ins with
  | [⟨.ref .ptr, .ptr 0 (.cons (.ref .slice) (.last (.ref .func))) [0]⟩, ⟨.int .i64, i⟩, ⟨.int .i64, j⟩], [⟨false, true, (.cons (.ref .slice) (.last (.ref .func))), [(.slice 1 (.cons (.int .i64) (.last (.int .i64))) [] 0 n, .func (.func 105) [] [])]⟩, ⟨false, false, (.cons (.int .i64) (.last (.int .i64))), l⟩] => some (out191 n i j l)
  | _, _ => none
def G191 := addG G188 155 sp191
def P191 (n : Nat) (i j : Int) (l : List (Int × Int)) : Prop :=
  (((0 : Int) ≤ j ∧ j < (↑n : Int)) ∧ (0 : Nat) + Int.toNat j < List.length l ∧ ((0 : Int) ≤ i ∧ i < (↑n : Int)) ∧ (0 : Nat) + Int.toNat i < List.length l ∧ ((0 : Int) ≤ i ∧ i < (↑n : Int)) ∧ (0 : Nat) + Int.toNat i <
  List.length l ∧ ((0 : Int) ≤ j ∧ j < (↑n : Int)) ∧ (0 : Nat) + Int.toNat j < List.length (List.set l ((0 : Nat) + Int.toNat i) (List.getD l ((0 : Nat) + Int.toNat j) ((0 : Int), (0 : Int))))) ∧ (0 : Nat) = (0 : Nat) ∧ n =
  n ∧ false = false ∧ List.set (List.set l ((0 : Nat) + Int.toNat i) (List.getD l ((0 : Nat) + Int.toNat j) ((0 : Int), (0 : Int)))) ((0 : Nat) + Int.toNat j) (List.getD l ((0 : Nat) + Int.toNat i) ((0 : Int), (0 : Int))) =
  swapL qz l (Int.toNat i) (Int.toNat j) ∧ false = false
theorem vc191 (n : Nat) (i j : Int) (l : List (Int × Int)) : P191 n i j l = vcFun C191 (ann191 n i j l) Go.Proofs.Tryd.f155 [⟨.ref .ptr, .ptr 0 (.cons (.ref .slice) (.last (.ref .func))) [0]⟩, ⟨.int .i64, i⟩, ⟨.int .i64, j⟩] [⟨false, true, (.cons (.ref .slice) (.last (.ref .func))), [(.slice 1 (.cons (.int .i64) (.last (.int .i64))) [] 0 n, .func (.func 105) [] [])]⟩, ⟨false, false, (.cons (.int .i64) (.last (.int .i64))), l⟩] (out191 n i j l) := by kernel_rfl

noncomputable def C190 : Ctx := ⟨Go.Proofs.Tryd.prog, D, G191, meth18, fun _ => []⟩
def ann190 (_n : Nat) (_l : List (Int × Int)) (_a _b : Int) : Nat → St → Option Ann := fun _ _ => none
def out190 (n : Nat) (l : List (Int × Int)) (a b : Int) : COut := ⟨[n = l.length ∧ n ≤ 1000000], .tup [], [(0, some ⟨false, true, (.cons (.ref .slice) (.last (.ref .func))), [(.slice 2 (.cons (.int .i64) (.last (.int .i64))) [] 0 (n + 1), .func (.func 105) [] [])]⟩), (1, none)], [⟨false, false, (.cons (.int .i64) (.last (.int .i64))), l ++ [(a, b)]⟩]⟩
def sp190 : Spec := fun args ins => match args, ins with
  | [⟨.ref .ptr, .ptr 0 (.cons (.ref .slice) (.last (.ref .func))) [0]⟩, ⟨.ref .iface, .iface 142 (.agg [.int .i64 a, .int .i64 b])⟩], [⟨false, true, (.cons (.ref .slice) (.last (.ref .func))), [(.slice 1 (.cons (.int .i64) (.last (.int .i64))) [] 0 n, .func (.func 105) [] [])]⟩, ⟨false, false, (.cons (.int .i64) (.last (.int .i64))), l⟩] => some (out190 n l a b)
  | _, _ => none
def G190 := addG G191 154 sp190
def P190 (n : Nat) (l : List (Int × Int)) (a b : Int) : Prop :=
  ((1 : Nat) ≤ (1 : Nat) ∧ (0 : Nat) + n = List.length l ∧ (n + List.length (seg ((a, b) :: List.replicate (nat_lit 0) ((0 : Int), (0 : Int))) (0 : Nat) (1 : Nat))) * (16 : Nat) ≤ (70368744177664 : Nat)) ∧ (0 : Nat) = (0 :
  Nat) ∧ n + List.length (seg ((a, b) :: List.replicate (nat_lit 0) ((0 : Int), (0 : Int))) (0 : Nat) (1 : Nat)) = n + (1 : Nat) ∧ false = false ∧ List.append (List.drop (0 : Nat) l) (seg ((a, b) :: List.replicate (nat_lit
  0) ((0 : Int), (0 : Int))) (0 : Nat) (1 : Nat)) = l ++ [(a, b)] ∧ false = false
theorem vc190 (n : Nat) (l : List (Int × Int)) (a b : Int) : P190 n l a b = vcFun C190 (ann190 n l a b) Go.Proofs.Tryd.f154 [⟨.ref .ptr, .ptr 0 (.cons (.ref .slice) (.last (.ref .func))) [0]⟩, ⟨.ref .iface, .iface 142 (.agg [.int .i64 a, .int .i64 b])⟩] [⟨false, true, (.cons (.ref .slice) (.last (.ref .func))), [(.slice 1 (.cons (.int .i64) (.last (.int .i64))) [] 0 n, .func (.func 105) [] [])]⟩, ⟨false, false, (.cons (.int .i64) (.last (.int .i64))), l⟩] (out190 n l a b) := by kernel_rfl

noncomputable def C189 : Ctx := ⟨Go.Proofs.Tryd.prog, D, G190, meth18, fun _ => []⟩
def ann189 (_n : Nat) (_l : List (Int × Int)) : Nat → St → Option Ann := fun _ _ => none
def out189 (n : Nat) (l : List (Int × Int)) : COut := ⟨[n = l.length ∧ 0 < n ∧ n ≤ 1000000], .v (.ref .iface) (.iface 142 (.agg [.int .i64 (l.getD (n - 1) qz).1, .int .i64 (l.getD (n - 1) qz).2])), [(0, some ⟨false, true, (.cons (.ref .slice) (.last (.ref .func))), [(.slice 1 (.cons (.int .i64) (.last (.int .i64))) [] 0 (n - 1), .func (.func 105) [] [])]⟩), (1, some ⟨false, false, (.cons (.int .i64) (.last (.int .i64))), l.take (n - 1)⟩)], []⟩
def raw189 (n : Nat) (l : List (Int × Int)) : COut := ⟨[n = l.length ∧ 0 < n ∧ n ≤ 1000000], .v (.ref .iface) (.iface 142 (.agg [.int .i64 (l.getD (n - 1) qz).1, .int .i64 (l.getD (n - 1) qz).2])), [(0, some ⟨false, true, (.cons (.ref .slice) (.last (.ref .func))), [(.slice 1 (.cons (.int .i64) (.last (.int .i64))) [] 0 (n - 1), .func (.func 105) [] [])]⟩)], []⟩
def sp189 : Spec := fun args ins => match args, ins with
  | [⟨.ref .ptr, .ptr 0 (.cons (.ref .slice) (.last (.ref .func))) [0]⟩], [⟨false, true, (.cons (.ref .slice) (.last (.ref .func))), [(.slice 1 (.cons (.int .i64) (.last (.int .i64))) [] 0 n, .func (.func 105) [] [])]⟩, ⟨false, false, (.cons (.int .i64) (.last (.int .i64))), l⟩] => some (out189 n l)
  | _, _ => none
def G189 := addG G190 153 sp189
def P189 (n : Nat) (l : List (Int × Int)) : Prop :=
  (((0 : Int) ≤ IntKind.wrap IntKind.i64 ((↑n : Int) - (1 : Int)) ∧ IntKind.wrap IntKind.i64 ((↑n : Int) - (1 : Int)) < (↑n : Int)) ∧ (0 : Nat) + Int.toNat (IntKind.wrap IntKind.i64 ((↑n : Int) - (1 : Int))) < List.length
  l) ∧ ((0 : Int) ≤ IntKind.wrap IntKind.i64 ((↑n : Int) - (1 : Int)) ∧ IntKind.wrap IntKind.i64 ((↑n : Int) - (1 : Int)) ≤ (↑n : Int)) ∧ Ref.agg [Ref.int IntKind.i64 (Prod.fst (List.getD l ((0 : Nat) + Int.toNat
  (IntKind.wrap IntKind.i64 ((↑n : Int) - (1 : Int)))) ((0 : Int), (0 : Int)))), Ref.int IntKind.i64 (Prod.snd (List.getD l ((0 : Nat) + Int.toNat (IntKind.wrap IntKind.i64 ((↑n : Int) - (1 : Int)))) ((0 : Int), (0 :
  Int))))] = Ref.agg [Ref.int IntKind.i64 (Prod.fst (List.getD l (n - (1 : Nat)) qz)), Ref.int IntKind.i64 (Prod.snd (List.getD l (n - (1 : Nat)) qz))] ∧ (0 : Nat) = (0 : Nat) ∧ Int.toNat (IntKind.wrap IntKind.i64 ((↑n :
  Int) - (1 : Int))) - (0 : Nat) = n - (1 : Nat) ∧ false = false ∧ l = l ∧ false = false
theorem vc189 (n : Nat) (l : List (Int × Int)) : P189 n l = vcFun C189 (ann189 n l) Go.Proofs.Tryd.f153 [⟨.ref .ptr, .ptr 0 (.cons (.ref .slice) (.last (.ref .func))) [0]⟩] [⟨false, true, (.cons (.ref .slice) (.last (.ref .func))), [(.slice 1 (.cons (.int .i64) (.last (.int .i64))) [] 0 n, .func (.func 105) [] [])]⟩, ⟨false, false, (.cons (.int .i64) (.last (.int .i64))), l⟩] (raw189 n l) := by kernel_rfl

end Go.SL.A

/- Queues: their methods. -/
namespace Go.SL.A
open Go Go.SL Go.SL.S

theorem pure101 (a b c d : Int) : P101 a b c d := by
  unfold P101
  intro p hp q hq
  refine ⟨by clear hp hq; cases p <;> cases q <;> simp, ?_⟩
  unfold ltQ
  simp only [hp, hq]
  cases p <;> cases q <;> simp

theorem pure102 (n : Nat) (l : List (Int × Int)) : P102 n l := by unfold P102; simp

theorem pure188 (n : Nat) (i j : Int) (l : List (Int × Int)) (h1 : n = l.length) (h2 : (0 ≤ i ∧ i < n) ∧ 0 ≤ j ∧ j < n) : P188 n i j l := by
  subst h1
  obtain ⟨⟨a1, a2⟩, a3, a4⟩ := h2
  unfold P188
  simp only [Nat.zero_add, eq_self, true_and, and_true]
  exact ⟨⟨⟨a1, a2⟩, by omega, ⟨a3, a4⟩, by omega⟩, rfl⟩

theorem pure191 (n : Nat) (i j : Int) (l : List (Int × Int)) (h1 : n = l.length) (h2 : (0 ≤ i ∧ i < n) ∧ 0 ≤ j ∧ j < n) : P191 n i j l := by
  subst h1
  unfold P191 swapL
  simp only [Nat.zero_add, List.length_set, eq_self, true_and, and_true]
  exact ⟨⟨by omega, by omega, by omega, by omega, by omega, by omega, by omega, by omega⟩, rfl⟩

theorem pure190 (n : Nat) (l : List (Int × Int)) (a b : Int) (h : n = l.length ∧ n ≤ 1000000) : P190 n l a b := by
  unfold P190
  simp only [eq_self, true_and, and_true]
  refine ⟨⟨Nat.le_refl _, by omega, ?_⟩, rfl, rfl⟩
  show (n + 1) * 16 ≤ 70368744177664
  omega

theorem pure189 (n : Nat) (l : List (Int × Int)) (h : n = l.length ∧ 0 < n ∧ n ≤ 1000000) : P189 n l := by
  obtain ⟨h1, h2, h3⟩ := h
  unfold P189
  have w : IntKind.i64.wrap ((n : Int) - 1) = ((n - 1 : Nat) : Int) := by rw [w64 (by omega) (by omega)]; omega
  rw [w]
  simp only [Int.toNat_natCast, Nat.zero_add, eq_self, true_and, and_true]
  exact ⟨⟨⟨by omega, by omega⟩, by omega⟩, ⟨by omega, by omega⟩, rfl, rfl⟩
end Go.SL.A

/- Functions do what they are held to do. -/
namespace Go.SL.A
open Go Go.SL Go.SL.S
theorem snd101 : Sound Go.Proofs.Tryd.prog G101 := snd97.add ⟨_, Go.Proofs.Tryd.func105, by kernel_rfl, by kernel_rfl⟩ (by
  intro args ins out h hp
  unfold sp101 at h
  split at h
  · rename_i a b c d
    cases h
    exact vcFun_ok (C := C101) good snd97 methOk18 mix Go.Proofs.Tryd.func105 (ann101 a b c d) (fun hw => by rw [← vc101 a b c d]; exact pure101 a b c d)
  · cases h)

theorem snd102 : Sound Go.Proofs.Tryd.prog G102 := snd101.add ⟨_, Go.Proofs.Tryd.func107, by kernel_rfl, by kernel_rfl⟩ (by
  intro args ins out h hp
  unfold sp102 at h
  split at h
  · rename_i n l
    cases h
    exact vcFun_ok (C := C102) good snd101 methOk18 mix Go.Proofs.Tryd.func107 (ann102 n l) (fun hw => by rw [← vc102 n l]; exact pure102 n l)
  · cases h)

theorem snd188 : Sound Go.Proofs.Tryd.prog G188 := snd102.add ⟨_, Go.Proofs.Tryd.func152, by kernel_rfl, by kernel_rfl⟩ (by
  intro args ins out h hp
  unfold sp188 at h
  split at h
  · rename_i i j n l
    cases h
    exact vcFun_ok (C := C188) good snd102 methOk18 mix Go.Proofs.Tryd.func152 (ann188 n i j l) (fun hw => by rw [← vc188 n i j l]; exact pure188 n i j l hp.1 hp.2)
  · cases h)

theorem snd191 : Sound Go.Proofs.Tryd.prog G191 := snd188.add ⟨_, Go.Proofs.Tryd.func155, by kernel_rfl, by kernel_rfl⟩ (by
  intro args ins out h hp
  unfold sp191 at h
  split at h
  · rename_i i j n l
    cases h
    exact vcFun_ok (C := C191) good snd188 methOk18 mix Go.Proofs.Tryd.func155 (ann191 n i j l) (fun hw => by rw [← vc191 n i j l]; exact pure191 n i j l hp.1 hp.2)
  · cases h)

theorem snd190 : Sound Go.Proofs.Tryd.prog G190 := snd191.add ⟨_, Go.Proofs.Tryd.func154, by kernel_rfl, by kernel_rfl⟩ (by
  intro args ins out h hp
  unfold sp190 at h
  split at h
  · rename_i a b n l
    cases h
    exact vcFun_ok (C := C190) good snd191 methOk18 mix Go.Proofs.Tryd.func154 (ann190 n l a b) (fun hw => by rw [← vc190 n l a b]; exact pure190 n l a b hp)
  · cases h)

theorem snd189 : Sound Go.Proofs.Tryd.prog G189 := snd190.add ⟨_, Go.Proofs.Tryd.func153, by kernel_rfl, by kernel_rfl⟩ (by
  intro args ins out h hp
  unfold sp189 at h
  split at h
  · rename_i n l
    cases h
    exact VCall.cut (out := raw189 n l) (vcFun_ok (C := C189) good snd190 methOk18 mix Go.Proofs.Tryd.func153 (ann189 n l) (fun hw => by rw [← vc189 n l]; exact pure189 n l hp)) rfl 1 ⟨false, false, (.cons (.int .i64) (.last (.int .i64))), l⟩ (n - 1) rfl rfl
  · cases h)

end Go.SL.A

/- Functions and what they are held to do: bound to their code. -/
namespace Go.SL.A
open Go Go.SL Go.SL.S
set_option maxRecDepth 100000
noncomputable def C128b : Ctx := ⟨Go.Proofs.Tryd.prog, D, G189, meth18, fun _ => []⟩
def ann128b (n : Nat) (j : Int) (l : List (Int × Int)) : Nat → St → Option Ann := fun _ _ => some ⟨Nat × List (Int × Int), [0], [0], fun x => [(1, .v (.int .i64) (x.1 : Int))], fun x => [(1, some ⟨false, false, (.cons (.int .i64) (.last (.int .i64))), x.2⟩)], fun x => x.2.length = n ∧ x.1 < n ∧ upL ltQ qz (x.1 + 1) x.2 x.1 = upL ltQ qz (j.toNat + 1) l j.toNat, fun x => x.1⟩
def out128b (n : Nat) (j : Int) (l : List (Int × Int)) : COut := ⟨[n = l.length ∧ n ≤ 1000000, 0 ≤ j ∧ j < n], .tup [], [(1, some ⟨false, false, (.cons (.int .i64) (.last (.int .i64))), upL ltQ qz (j.toNat + 1) l j.toNat⟩)], []⟩
def sp128b : Spec := fun args ins => match args, ins with
  | [⟨.ref .iface, .iface 135 (.ptr 0 (.cons (.ref .slice) (.last (.ref .func))) [0])⟩, ⟨.int .i64, j⟩], [⟨false, true, (.cons (.ref .slice) (.last (.ref .func))), [(.slice 1 (.cons (.int .i64) (.last (.int .i64))) [] 0 n, .func (.func 105) [] [])]⟩, ⟨false, false, (.cons (.int .i64) (.last (.int .i64))), l⟩] => some (out128b n j l)
  | _, _ => none
def G128b := addM G189 127 sp128b
def P128b (n : Nat) (j : Int) (l : List (Int × Int)) : Prop :=
  ∃ (x : Nat × List (Int × Int)), (((0 : Nat) = (0 : Nat) ∧ j = (↑(Prod.fst x) : Int) ∧ (0 : Nat) = (0 : Nat) ∧ n = n ∧ false = false ∧ l = Prod.snd x ∧ false = false) ∧ List.length (Prod.snd x) = n ∧ Prod.fst x < n ∧ upL
  ltQ qz (Prod.fst x + (1 : Nat)) (Prod.snd x) (Prod.fst x) = upL ltQ qz (Int.toNat j + (1 : Nat)) l (Int.toNat j)) ∧ ∀ (x : Nat × List (Int × Int)), List.length (Prod.snd x) = n ∧ Prod.fst x < n ∧ upL ltQ qz (Prod.fst x +
  (1 : Nat)) (Prod.snd x) (Prod.fst x) = upL ltQ qz (Int.toNat j + (1 : Nat)) l (Int.toNat j) → (IntKind.min IntKind.i64 ≤ (↑(Prod.fst x) : Int) ∧ (↑(Prod.fst x) : Int) ≤ IntKind.max IntKind.i64 ∧ ∀ (y : Int × Int),
  List.Mem y (Prod.snd x) → IntKind.min IntKind.i64 ≤ Prod.fst y ∧ Prod.fst y ≤ IntKind.max IntKind.i64 ∧ IntKind.min IntKind.i64 ≤ Prod.snd y ∧ Prod.snd y ≤ IntKind.max IntKind.i64) → (2 : Int) ≠ (0 : Int) ∧ bif decide
  (IntKind.wrap IntKind.i64 (Int.tdiv (IntKind.wrap IntKind.i64 ((↑(Prod.fst x) : Int) - (1 : Int))) (2 : Int)) = (↑(Prod.fst x) : Int)) then (true = false → false = true) ∧ (0 : Nat) = (0 : Nat) ∧ n = n ∧ false = false ∧
  Prod.snd x = upL ltQ qz (Int.toNat j + (1 : Nat)) l (Int.toNat j) ∧ false = false else (n = List.length (Prod.snd x) ∧ ((0 : Int) ≤ (↑(Prod.fst x) : Int) ∧ (↑(Prod.fst x) : Int) < (↑n : Int)) ∧ (0 : Int) ≤ IntKind.wrap
  IntKind.i64 (Int.tdiv (IntKind.wrap IntKind.i64 ((↑(Prod.fst x) : Int) - (1 : Int))) (2 : Int)) ∧ IntKind.wrap IntKind.i64 (Int.tdiv (IntKind.wrap IntKind.i64 ((↑(Prod.fst x) : Int) - (1 : Int))) (2 : Int)) < (↑n : Int))
  ∧ bif !ltQ (List.getD (Prod.snd x) (Int.toNat (↑(Prod.fst x) : Int)) qz) (List.getD (Prod.snd x) (Int.toNat (IntKind.wrap IntKind.i64 (Int.tdiv (IntKind.wrap IntKind.i64 ((↑(Prod.fst x) : Int) - (1 : Int))) (2 : Int))))
  qz) then (0 : Nat) = (0 : Nat) ∧ n = n ∧ false = false ∧ Prod.snd x = upL ltQ qz (Int.toNat j + (1 : Nat)) l (Int.toNat j) ∧ false = false else (n = List.length (Prod.snd x) ∧ ((0 : Int) ≤ IntKind.wrap IntKind.i64
  (Int.tdiv (IntKind.wrap IntKind.i64 ((↑(Prod.fst x) : Int) - (1 : Int))) (2 : Int)) ∧ IntKind.wrap IntKind.i64 (Int.tdiv (IntKind.wrap IntKind.i64 ((↑(Prod.fst x) : Int) - (1 : Int))) (2 : Int)) < (↑n : Int)) ∧ (0 : Int)
  ≤ (↑(Prod.fst x) : Int) ∧ (↑(Prod.fst x) : Int) < (↑n : Int)) ∧ ∃ (y : Nat × List (Int × Int)), ((0 : Nat) = (0 : Nat) ∧ IntKind.wrap IntKind.i64 (Int.tdiv (IntKind.wrap IntKind.i64 ((↑(Prod.fst x) : Int) - (1 : Int))) (2
  : Int)) = (↑(Prod.fst y) : Int) ∧ (0 : Nat) = (0 : Nat) ∧ n = n ∧ false = false ∧ swapL qz (Prod.snd x) (Int.toNat (IntKind.wrap IntKind.i64 (Int.tdiv (IntKind.wrap IntKind.i64 ((↑(Prod.fst x) : Int) - (1 : Int))) (2 :
  Int)))) (Int.toNat (↑(Prod.fst x) : Int)) = Prod.snd y ∧ false = false) ∧ (List.length (Prod.snd y) = n ∧ Prod.fst y < n ∧ upL ltQ qz (Prod.fst y + (1 : Nat)) (Prod.snd y) (Prod.fst y) = upL ltQ qz (Int.toNat j + (1 :
  Nat)) l (Int.toNat j)) ∧ Prod.fst y < Prod.fst x
theorem vc128b (n : Nat) (j : Int) (l : List (Int × Int)) : P128b n j l = vcFun C128b (ann128b n j l) Go.Proofs.Tryd.f127 [⟨.ref .iface, .iface 135 (.ptr 0 (.cons (.ref .slice) (.last (.ref .func))) [0])⟩, ⟨.int .i64, j⟩] [⟨false, true, (.cons (.ref .slice) (.last (.ref .func))), [(.slice 1 (.cons (.int .i64) (.last (.int .i64))) [] 0 n, .func (.func 105) [] [])]⟩, ⟨false, false, (.cons (.int .i64) (.last (.int .i64))), l⟩] (out128b n j l) := by kernel_rfl

noncomputable def C129b : Ctx := ⟨Go.Proofs.Tryd.prog, D, G128b, meth18, fun _ => []⟩
def ann129b (n : Nat) (i m : Int) (l : List (Int × Int)) : Nat → St → Option Ann := fun _ _ => some ⟨Nat × List (Int × Int), [0, 1, 2], [0], fun x => [(7, .v (.int .i64) (x.1 : Int))], fun x => [(1, some ⟨false, false, (.cons (.int .i64) (.last (.int .i64))), x.2⟩)], fun x => x.2.length = n ∧ x.1 ≤ 1000000 ∧ downL ltQ qz m.toNat (m.toNat - x.1) x.2 x.1 = downL ltQ qz m.toNat (m.toNat - i.toNat) l i.toNat, fun x => m.toNat - x.1⟩
def out129b (n : Nat) (i m : Int) (l : List (Int × Int)) : COut := ⟨[n = l.length ∧ n ≤ 1000000, (0 ≤ i ∧ i ≤ 1000000) ∧ 0 ≤ m ∧ m ≤ n], .v .bool (decide (i < ((downL ltQ qz m.toNat (m.toNat - i.toNat) l i.toNat).2 : Nat))), [(1, some ⟨false, false, (.cons (.int .i64) (.last (.int .i64))), (downL ltQ qz m.toNat (m.toNat - i.toNat) l i.toNat).1⟩)], []⟩
def sp129b : Spec := fun args ins => match args, ins with
  | [⟨.ref .iface, .iface 135 (.ptr 0 (.cons (.ref .slice) (.last (.ref .func))) [0])⟩, ⟨.int .i64, i⟩, ⟨.int .i64, m⟩], [⟨false, true, (.cons (.ref .slice) (.last (.ref .func))), [(.slice 1 (.cons (.int .i64) (.last (.int .i64))) [] 0 n, .func (.func 105) [] [])]⟩, ⟨false, false, (.cons (.int .i64) (.last (.int .i64))), l⟩] => some (out129b n i m l)
  | _, _ => none
def G129b := addM G128b 128 sp129b
def P129b (n : Nat) (i m : Int) (l : List (Int × Int)) : Prop :=
  ∃ (x : Nat × List (Int × Int)), (((0 : Nat) = (0 : Nat) ∧ i = i ∧ m = m ∧ i = (↑(Prod.fst x) : Int) ∧ (0 : Nat) = (0 : Nat) ∧ n = n ∧ false = false ∧ l = Prod.snd x ∧ false = false) ∧ List.length (Prod.snd x) = n ∧
  Prod.fst x ≤ (1000000 : Nat) ∧ downL ltQ qz (Int.toNat m) (Int.toNat m - Prod.fst x) (Prod.snd x) (Prod.fst x) = downL ltQ qz (Int.toNat m) (Int.toNat m - Int.toNat i) l (Int.toNat i)) ∧ ∀ (x : Nat × List (Int × Int)),
  List.length (Prod.snd x) = n ∧ Prod.fst x ≤ (1000000 : Nat) ∧ downL ltQ qz (Int.toNat m) (Int.toNat m - Prod.fst x) (Prod.snd x) (Prod.fst x) = downL ltQ qz (Int.toNat m) (Int.toNat m - Int.toNat i) l (Int.toNat i) →
  (IntKind.min IntKind.i64 ≤ (↑(Prod.fst x) : Int) ∧ (↑(Prod.fst x) : Int) ≤ IntKind.max IntKind.i64 ∧ ∀ (y : Int × Int), List.Mem y (Prod.snd x) → IntKind.min IntKind.i64 ≤ Prod.fst y ∧ Prod.fst y ≤ IntKind.max IntKind.i64
  ∧ IntKind.min IntKind.i64 ≤ Prod.snd y ∧ Prod.snd y ≤ IntKind.max IntKind.i64) → ∀ (b : Bool), decide (m ≤ IntKind.wrap IntKind.i64 (IntKind.wrap IntKind.i64 ((2 : Int) * (↑(Prod.fst x) : Int)) + (1 : Int))) = b → (((!b)
  = true → (!b) = true) ∧ (b = false → (!b) = true)) ∧ bif bif b then true else decide (IntKind.wrap IntKind.i64 (IntKind.wrap IntKind.i64 ((2 : Int) * (↑(Prod.fst x) : Int)) + (1 : Int)) < (0 : Int)) then decide (i <
  (↑(Prod.fst x) : Int)) = decide (i < (↑(Prod.snd (downL ltQ qz (Int.toNat m) (Int.toNat m - Int.toNat i) l (Int.toNat i))) : Int)) ∧ (0 : Nat) = (0 : Nat) ∧ n = n ∧ false = false ∧ Prod.snd x = Prod.fst (downL ltQ qz
  (Int.toNat m) (Int.toNat m - Int.toNat i) l (Int.toNat i)) ∧ false = false else bif decide (IntKind.wrap IntKind.i64 (IntKind.wrap IntKind.i64 (IntKind.wrap IntKind.i64 ((2 : Int) * (↑(Prod.fst x) : Int)) + (1 : Int)) +
  (1 : Int)) < m) then (n = List.length (Prod.snd x) ∧ ((0 : Int) ≤ IntKind.wrap IntKind.i64 (IntKind.wrap IntKind.i64 (IntKind.wrap IntKind.i64 ((2 : Int) * (↑(Prod.fst x) : Int)) + (1 : Int)) + (1 : Int)) ∧ IntKind.wrap
  IntKind.i64 (IntKind.wrap IntKind.i64 (IntKind.wrap IntKind.i64 ((2 : Int) * (↑(Prod.fst x) : Int)) + (1 : Int)) + (1 : Int)) < (↑n : Int)) ∧ (0 : Int) ≤ IntKind.wrap IntKind.i64 (IntKind.wrap IntKind.i64 ((2 : Int) *
  (↑(Prod.fst x) : Int)) + (1 : Int)) ∧ IntKind.wrap IntKind.i64 (IntKind.wrap IntKind.i64 ((2 : Int) * (↑(Prod.fst x) : Int)) + (1 : Int)) < (↑n : Int)) ∧ bif ltQ (List.getD (Prod.snd x) (Int.toNat (IntKind.wrap
  IntKind.i64 (IntKind.wrap IntKind.i64 (IntKind.wrap IntKind.i64 ((2 : Int) * (↑(Prod.fst x) : Int)) + (1 : Int)) + (1 : Int)))) qz) (List.getD (Prod.snd x) (Int.toNat (IntKind.wrap IntKind.i64 (IntKind.wrap IntKind.i64
  ((2 : Int) * (↑(Prod.fst x) : Int)) + (1 : Int)))) qz) then (n = List.length (Prod.snd x) ∧ ((0 : Int) ≤ IntKind.wrap IntKind.i64 (IntKind.wrap IntKind.i64 (IntKind.wrap IntKind.i64 ((2 : Int) * (↑(Prod.fst x) : Int)) +
  (1 : Int)) + (1 : Int)) ∧ IntKind.wrap IntKind.i64 (IntKind.wrap IntKind.i64 (IntKind.wrap IntKind.i64 ((2 : Int) * (↑(Prod.fst x) : Int)) + (1 : Int)) + (1 : Int)) < (↑n : Int)) ∧ (0 : Int) ≤ (↑(Prod.fst x) : Int) ∧
  (↑(Prod.fst x) : Int) < (↑n : Int)) ∧ bif !ltQ (List.getD (Prod.snd x) (Int.toNat (IntKind.wrap IntKind.i64 (IntKind.wrap IntKind.i64 (IntKind.wrap IntKind.i64 ((2 : Int) * (↑(Prod.fst x) : Int)) + (1 : Int)) + (1 :
  Int)))) qz) (List.getD (Prod.snd x) (Int.toNat (↑(Prod.fst x) : Int)) qz) then decide (i < (↑(Prod.fst x) : Int)) = decide (i < (↑(Prod.snd (downL ltQ qz (Int.toNat m) (Int.toNat m - Int.toNat i) l (Int.toNat i))) : Int))
  ∧ (0 : Nat) = (0 : Nat) ∧ n = n ∧ false = false ∧ Prod.snd x = Prod.fst (downL ltQ qz (Int.toNat m) (Int.toNat m - Int.toNat i) l (Int.toNat i)) ∧ false = false else (n = List.length (Prod.snd x) ∧ ((0 : Int) ≤
  (↑(Prod.fst x) : Int) ∧ (↑(Prod.fst x) : Int) < (↑n : Int)) ∧ (0 : Int) ≤ IntKind.wrap IntKind.i64 (IntKind.wrap IntKind.i64 (IntKind.wrap IntKind.i64 ((2 : Int) * (↑(Prod.fst x) : Int)) + (1 : Int)) + (1 : Int)) ∧
  IntKind.wrap IntKind.i64 (IntKind.wrap IntKind.i64 (IntKind.wrap IntKind.i64 ((2 : Int) * (↑(Prod.fst x) : Int)) + (1 : Int)) + (1 : Int)) < (↑n : Int)) ∧ ∃ (y : Nat × List (Int × Int)), ((0 : Nat) = (0 : Nat) ∧ i = i ∧ m
  = m ∧ IntKind.wrap IntKind.i64 (IntKind.wrap IntKind.i64 (IntKind.wrap IntKind.i64 ((2 : Int) * (↑(Prod.fst x) : Int)) + (1 : Int)) + (1 : Int)) = (↑(Prod.fst y) : Int) ∧ (0 : Nat) = (0 : Nat) ∧ n = n ∧ false = false ∧
  swapL qz (Prod.snd x) (Int.toNat (↑(Prod.fst x) : Int)) (Int.toNat (IntKind.wrap IntKind.i64 (IntKind.wrap IntKind.i64 (IntKind.wrap IntKind.i64 ((2 : Int) * (↑(Prod.fst x) : Int)) + (1 : Int)) + (1 : Int)))) = Prod.snd y
  ∧ false = false) ∧ (List.length (Prod.snd y) = n ∧ Prod.fst y ≤ (1000000 : Nat) ∧ downL ltQ qz (Int.toNat m) (Int.toNat m - Prod.fst y) (Prod.snd y) (Prod.fst y) = downL ltQ qz (Int.toNat m) (Int.toNat m - Int.toNat i) l
  (Int.toNat i)) ∧ Int.toNat m - Prod.fst y < Int.toNat m - Prod.fst x else (n = List.length (Prod.snd x) ∧ ((0 : Int) ≤ IntKind.wrap IntKind.i64 (IntKind.wrap IntKind.i64 ((2 : Int) * (↑(Prod.fst x) : Int)) + (1 : Int)) ∧
  IntKind.wrap IntKind.i64 (IntKind.wrap IntKind.i64 ((2 : Int) * (↑(Prod.fst x) : Int)) + (1 : Int)) < (↑n : Int)) ∧ (0 : Int) ≤ (↑(Prod.fst x) : Int) ∧ (↑(Prod.fst x) : Int) < (↑n : Int)) ∧ bif !ltQ (List.getD (Prod.snd
  x) (Int.toNat (IntKind.wrap IntKind.i64 (IntKind.wrap IntKind.i64 ((2 : Int) * (↑(Prod.fst x) : Int)) + (1 : Int)))) qz) (List.getD (Prod.snd x) (Int.toNat (↑(Prod.fst x) : Int)) qz) then decide (i < (↑(Prod.fst x) :
  Int)) = decide (i < (↑(Prod.snd (downL ltQ qz (Int.toNat m) (Int.toNat m - Int.toNat i) l (Int.toNat i))) : Int)) ∧ (0 : Nat) = (0 : Nat) ∧ n = n ∧ false = false ∧ Prod.snd x = Prod.fst (downL ltQ qz (Int.toNat m)
  (Int.toNat m - Int.toNat i) l (Int.toNat i)) ∧ false = false else (n = List.length (Prod.snd x) ∧ ((0 : Int) ≤ (↑(Prod.fst x) : Int) ∧ (↑(Prod.fst x) : Int) < (↑n : Int)) ∧ (0 : Int) ≤ IntKind.wrap IntKind.i64
  (IntKind.wrap IntKind.i64 ((2 : Int) * (↑(Prod.fst x) : Int)) + (1 : Int)) ∧ IntKind.wrap IntKind.i64 (IntKind.wrap IntKind.i64 ((2 : Int) * (↑(Prod.fst x) : Int)) + (1 : Int)) < (↑n : Int)) ∧ ∃ (y : Nat × List (Int ×
  Int)), ((0 : Nat) = (0 : Nat) ∧ i = i ∧ m = m ∧ IntKind.wrap IntKind.i64 (IntKind.wrap IntKind.i64 ((2 : Int) * (↑(Prod.fst x) : Int)) + (1 : Int)) = (↑(Prod.fst y) : Int) ∧ (0 : Nat) = (0 : Nat) ∧ n = n ∧ false = false ∧
  swapL qz (Prod.snd x) (Int.toNat (↑(Prod.fst x) : Int)) (Int.toNat (IntKind.wrap IntKind.i64 (IntKind.wrap IntKind.i64 ((2 : Int) * (↑(Prod.fst x) : Int)) + (1 : Int)))) = Prod.snd y ∧ false = false) ∧ (List.length
  (Prod.snd y) = n ∧ Prod.fst y ≤ (1000000 : Nat) ∧ downL ltQ qz (Int.toNat m) (Int.toNat m - Prod.fst y) (Prod.snd y) (Prod.fst y) = downL ltQ qz (Int.toNat m) (Int.toNat m - Int.toNat i) l (Int.toNat i)) ∧ Int.toNat m -
  Prod.fst y < Int.toNat m - Prod.fst x else (false = true → false = true) ∧ (n = List.length (Prod.snd x) ∧ ((0 : Int) ≤ IntKind.wrap IntKind.i64 (IntKind.wrap IntKind.i64 ((2 : Int) * (↑(Prod.fst x) : Int)) + (1 : Int)) ∧
  IntKind.wrap IntKind.i64 (IntKind.wrap IntKind.i64 ((2 : Int) * (↑(Prod.fst x) : Int)) + (1 : Int)) < (↑n : Int)) ∧ (0 : Int) ≤ (↑(Prod.fst x) : Int) ∧ (↑(Prod.fst x) : Int) < (↑n : Int)) ∧ bif !ltQ (List.getD (Prod.snd
  x) (Int.toNat (IntKind.wrap IntKind.i64 (IntKind.wrap IntKind.i64 ((2 : Int) * (↑(Prod.fst x) : Int)) + (1 : Int)))) qz) (List.getD (Prod.snd x) (Int.toNat (↑(Prod.fst x) : Int)) qz) then decide (i < (↑(Prod.fst x) :
  Int)) = decide (i < (↑(Prod.snd (downL ltQ qz (Int.toNat m) (Int.toNat m - Int.toNat i) l (Int.toNat i))) : Int)) ∧ (0 : Nat) = (0 : Nat) ∧ n = n ∧ false = false ∧ Prod.snd x = Prod.fst (downL ltQ qz (Int.toNat m)
  (Int.toNat m - Int.toNat i) l (Int.toNat i)) ∧ false = false else (n = List.length (Prod.snd x) ∧ ((0 : Int) ≤ (↑(Prod.fst x) : Int) ∧ (↑(Prod.fst x) : Int) < (↑n : Int)) ∧ (0 : Int) ≤ IntKind.wrap IntKind.i64
  (IntKind.wrap IntKind.i64 ((2 : Int) * (↑(Prod.fst x) : Int)) + (1 : Int)) ∧ IntKind.wrap IntKind.i64 (IntKind.wrap IntKind.i64 ((2 : Int) * (↑(Prod.fst x) : Int)) + (1 : Int)) < (↑n : Int)) ∧ ∃ (y : Nat × List (Int ×
  Int)), ((0 : Nat) = (0 : Nat) ∧ i = i ∧ m = m ∧ IntKind.wrap IntKind.i64 (IntKind.wrap IntKind.i64 ((2 : Int) * (↑(Prod.fst x) : Int)) + (1 : Int)) = (↑(Prod.fst y) : Int) ∧ (0 : Nat) = (0 : Nat) ∧ n = n ∧ false = false ∧
  swapL qz (Prod.snd x) (Int.toNat (↑(Prod.fst x) : Int)) (Int.toNat (IntKind.wrap IntKind.i64 (IntKind.wrap IntKind.i64 ((2 : Int) * (↑(Prod.fst x) : Int)) + (1 : Int)))) = Prod.snd y ∧ false = false) ∧ (List.length
  (Prod.snd y) = n ∧ Prod.fst y ≤ (1000000 : Nat) ∧ downL ltQ qz (Int.toNat m) (Int.toNat m - Prod.fst y) (Prod.snd y) (Prod.fst y) = downL ltQ qz (Int.toNat m) (Int.toNat m - Int.toNat i) l (Int.toNat i)) ∧ Int.toNat m -
  Prod.fst y < Int.toNat m - Prod.fst x
theorem vc129b (n : Nat) (i m : Int) (l : List (Int × Int)) : P129b n i m l = vcFun C129b (ann129b n i m l) Go.Proofs.Tryd.f128 [⟨.ref .iface, .iface 135 (.ptr 0 (.cons (.ref .slice) (.last (.ref .func))) [0])⟩, ⟨.int .i64, i⟩, ⟨.int .i64, m⟩] [⟨false, true, (.cons (.ref .slice) (.last (.ref .func))), [(.slice 1 (.cons (.int .i64) (.last (.int .i64))) [] 0 n, .func (.func 105) [] [])]⟩, ⟨false, false, (.cons (.int .i64) (.last (.int .i64))), l⟩] (out129b n i m l) := by kernel_rfl

noncomputable def C94b : Ctx := ⟨Go.Proofs.Tryd.prog, D, G129b, meth18, fun _ => []⟩
def ann94b (_n : Nat) (_l : List (Int × Int)) (_a _b : Int) : Nat → St → Option Ann := fun _ _ => none
def out94b (n : Nat) (l : List (Int × Int)) (a b : Int) : COut := ⟨[n = l.length ∧ n ≤ 1000], .tup [], [(0, some ⟨false, true, (.cons (.ref .slice) (.last (.ref .func))), [(.slice 2 (.cons (.int .i64) (.last (.int .i64))) [] 0 (n + 1), .func (.func 105) [] [])]⟩), (1, none)], [⟨false, false, (.cons (.int .i64) (.last (.int .i64))), pushL ltQ qz l (a, b)⟩]⟩
def sp94b : Spec := fun args ins => match args, ins with
  | [⟨.ref .iface, .iface 135 (.ptr 0 (.cons (.ref .slice) (.last (.ref .func))) [0])⟩, ⟨.ref .iface, .iface 142 (.agg [.int .i64 a, .int .i64 b])⟩], [⟨false, true, (.cons (.ref .slice) (.last (.ref .func))), [(.slice 1 (.cons (.int .i64) (.last (.int .i64))) [] 0 n, .func (.func 105) [] [])]⟩, ⟨false, false, (.cons (.int .i64) (.last (.int .i64))), l⟩] => some (out94b n l a b)
  | _, _ => none
def G94b := addM G129b 106 sp94b
def P94b (n : Nat) (l : List (Int × Int)) (a b : Int) : Prop :=
  (n = List.length l ∧ n ≤ (1000000 : Nat)) ∧ ((n + (1 : Nat) = List.length (l ++ [(a, b)]) ∧ n + (1 : Nat) ≤ (1000000 : Nat)) ∧ (0 : Int) ≤ IntKind.wrap IntKind.i64 ((↑(n + (1 : Nat)) : Int) - (1 : Int)) ∧ IntKind.wrap
  IntKind.i64 ((↑(n + (1 : Nat)) : Int) - (1 : Int)) < (↑(n + (1 : Nat)) : Int)) ∧ (0 : Nat) = (0 : Nat) ∧ n + (1 : Nat) = n + (1 : Nat) ∧ false = false ∧ upL ltQ qz (Int.toNat (IntKind.wrap IntKind.i64 ((↑(n + (1 : Nat)) :
  Int) - (1 : Int))) + (1 : Nat)) (l ++ [(a, b)]) (Int.toNat (IntKind.wrap IntKind.i64 ((↑(n + (1 : Nat)) : Int) - (1 : Int)))) = pushL ltQ qz l (a, b) ∧ false = false
theorem vc94b (n : Nat) (l : List (Int × Int)) (a b : Int) : P94b n l a b = vcFun C94b (ann94b n l a b) Go.Proofs.Tryd.f106 [⟨.ref .iface, .iface 135 (.ptr 0 (.cons (.ref .slice) (.last (.ref .func))) [0])⟩, ⟨.ref .iface, .iface 142 (.agg [.int .i64 a, .int .i64 b])⟩] [⟨false, true, (.cons (.ref .slice) (.last (.ref .func))), [(.slice 1 (.cons (.int .i64) (.last (.int .i64))) [] 0 n, .func (.func 105) [] [])]⟩, ⟨false, false, (.cons (.int .i64) (.last (.int .i64))), l⟩] (out94b n l a b) := by kernel_rfl

noncomputable def C103 : Ctx := ⟨Go.Proofs.Tryd.prog, D, G94b, meth18, fun _ => []⟩
def ann103 (_n : Nat) (_l : List (Int × Int)) : Nat → St → Option Ann := fun _ _ => none
def out103 (n : Nat) (l : List (Int × Int)) : COut := ⟨[n = l.length ∧ 0 < n ∧ n ≤ 1000], .v (.ref .iface) (.iface 142 (.agg [.int .i64 (l.getD 0 qz).1, .int .i64 (l.getD 0 qz).2])), [(0, some ⟨false, true, (.cons (.ref .slice) (.last (.ref .func))), [(.slice 1 (.cons (.int .i64) (.last (.int .i64))) [] 0 (n - 1), .func (.func 105) [] [])]⟩), (1, some ⟨false, false, (.cons (.int .i64) (.last (.int .i64))), popL ltQ qz l⟩)], []⟩
def sp103 : Spec := fun args ins => match args, ins with
  | [⟨.ref .iface, .iface 135 (.ptr 0 (.cons (.ref .slice) (.last (.ref .func))) [0])⟩], [⟨false, true, (.cons (.ref .slice) (.last (.ref .func))), [(.slice 1 (.cons (.int .i64) (.last (.int .i64))) [] 0 n, .func (.func 105) [] [])]⟩, ⟨false, false, (.cons (.int .i64) (.last (.int .i64))), l⟩] => some (out103 n l)
  | _, _ => none
def G103 := addG G94b 108 sp103
def P103 (n : Nat) (l : List (Int × Int)) : Prop :=
  (n = List.length l ∧ ((0 : Int) ≤ (0 : Int) ∧ (0 : Int) < (↑n : Int)) ∧ (0 : Int) ≤ IntKind.wrap IntKind.i64 ((↑n : Int) - (1 : Int)) ∧ IntKind.wrap IntKind.i64 ((↑n : Int) - (1 : Int)) < (↑n : Int)) ∧ ((n = List.length
  (swapL qz l (0 : Nat) (Int.toNat (IntKind.wrap IntKind.i64 ((↑n : Int) - (1 : Int))))) ∧ n ≤ (1000000 : Nat)) ∧ ((0 : Int) ≤ (0 : Int) ∧ (0 : Int) ≤ (1000000 : Int)) ∧ (0 : Int) ≤ IntKind.wrap IntKind.i64 ((↑n : Int) - (1
  : Int)) ∧ IntKind.wrap IntKind.i64 ((↑n : Int) - (1 : Int)) ≤ (↑n : Int)) ∧ (n = List.length (Prod.fst (downL ltQ qz (Int.toNat (IntKind.wrap IntKind.i64 ((↑n : Int) - (1 : Int)))) (Int.toNat (IntKind.wrap IntKind.i64
  ((↑n : Int) - (1 : Int))) - (0 : Nat)) (swapL qz l (0 : Nat) (Int.toNat (IntKind.wrap IntKind.i64 ((↑n : Int) - (1 : Int))))) (0 : Nat))) ∧ (0 : Nat) < n ∧ n ≤ (1000000 : Nat)) ∧ Ref.agg [Ref.int IntKind.i64 (Prod.fst
  (List.getD (Prod.fst (downL ltQ qz (Int.toNat (IntKind.wrap IntKind.i64 ((↑n : Int) - (1 : Int)))) (Int.toNat (IntKind.wrap IntKind.i64 ((↑n : Int) - (1 : Int))) - (0 : Nat)) (swapL qz l (0 : Nat) (Int.toNat (IntKind.wrap
  IntKind.i64 ((↑n : Int) - (1 : Int))))) (0 : Nat))) (n - (1 : Nat)) qz)), Ref.int IntKind.i64 (Prod.snd (List.getD (Prod.fst (downL ltQ qz (Int.toNat (IntKind.wrap IntKind.i64 ((↑n : Int) - (1 : Int)))) (Int.toNat
  (IntKind.wrap IntKind.i64 ((↑n : Int) - (1 : Int))) - (0 : Nat)) (swapL qz l (0 : Nat) (Int.toNat (IntKind.wrap IntKind.i64 ((↑n : Int) - (1 : Int))))) (0 : Nat))) (n - (1 : Nat)) qz))] = Ref.agg [Ref.int IntKind.i64
  (Prod.fst (List.getD l (0 : Nat) qz)), Ref.int IntKind.i64 (Prod.snd (List.getD l (0 : Nat) qz))] ∧ (0 : Nat) = (0 : Nat) ∧ n - (1 : Nat) = n - (1 : Nat) ∧ false = false ∧ List.take (n - (1 : Nat)) (Prod.fst (downL ltQ qz
  (Int.toNat (IntKind.wrap IntKind.i64 ((↑n : Int) - (1 : Int)))) (Int.toNat (IntKind.wrap IntKind.i64 ((↑n : Int) - (1 : Int))) - (0 : Nat)) (swapL qz l (0 : Nat) (Int.toNat (IntKind.wrap IntKind.i64 ((↑n : Int) - (1 :
  Int))))) (0 : Nat))) = popL ltQ qz l ∧ false = false
theorem vc103 (n : Nat) (l : List (Int × Int)) : P103 n l = vcFun C103 (ann103 n l) Go.Proofs.Tryd.f108 [⟨.ref .iface, .iface 135 (.ptr 0 (.cons (.ref .slice) (.last (.ref .func))) [0])⟩] [⟨false, true, (.cons (.ref .slice) (.last (.ref .func))), [(.slice 1 (.cons (.int .i64) (.last (.int .i64))) [] 0 n, .func (.func 105) [] [])]⟩, ⟨false, false, (.cons (.int .i64) (.last (.int .i64))), l⟩] (out103 n l) := by kernel_rfl

end Go.SL.A

/- Queues: up, down, push, pop. -/
namespace Go.SL.A
open Go Go.SL Go.SL.S

theorem pure128b (n : Nat) (j : Int) (l : List (Int × Int)) (h1 : n = l.length ∧ n ≤ 1000000) (h2 : 0 ≤ j ∧ j < n) : P128b n j l := by
  obtain ⟨rfl, h1⟩ := h1
  unfold P128b
  simp only [eq_self, true_and, and_true, Int.toNat_natCast]
  refine ⟨(j.toNat, l), ⟨⟨(Int.toNat_of_nonneg h2.1).symm, rfl⟩, rfl, by simp only; omega, rfl⟩, fun x hx _ => ?_⟩
  obtain ⟨k, L⟩ := x
  obtain ⟨hl, hk, he⟩ := hx
  simp only at hl hk he ⊢
  rw [half_up (by omega)]
  simp only [Int.toNat_natCast]
  refine ⟨by decide, ?_⟩
  by_cases h0 : (k - 1) / 2 = k
  · have h0' : (((k - 1) / 2 : Nat) : Int) = (k : Int) := by rw [h0]
    rw [decide_eq_true h0', cond_true]
    refine ⟨by simp, ?_⟩
    rw [upL, decide_eq_true h0] at he
    exact he
  · have h0' : ¬ (((k - 1) / 2 : Nat) : Int) = (k : Int) := by omega
    rw [decide_eq_false h0', cond_false]
    refine ⟨⟨hl.symm, ⟨by omega, by omega⟩, by omega, by omega⟩, ?_⟩
    rw [upL, decide_eq_false h0] at he
    cases hlt : ltQ (L.getD k qz) (L.getD ((k - 1) / 2) qz) with
    | false =>
      rw [hlt] at he
      simp only [Bool.not_false, cond_true]
      exact he
    | true =>
      rw [hlt] at he
      simp only [Bool.not_true, cond_false]
      simp only at he
      rw [upL_fuel ltQ qz k _ _ (by omega)] at he
      refine ⟨⟨hl.symm, ⟨by omega, by omega⟩, by omega, by omega⟩, ((k - 1) / 2, swapL qz L ((k - 1) / 2) k), ⟨rfl, rfl⟩, ⟨by simp only [swapL_len]; exact hl, by simp only; omega, he⟩, by simp only; omega⟩

theorem tail129b {n : Nat} {i m : Int} {L : List (Int × Int)} {R : List (Int × Int) × Nat} {k c : Nat} (hl : L.length = n) (hn : n ≤ 1000000) (hm : m.toNat ≤ n) (he : downL ltQ qz m.toNat (m.toNat - k) L k = R) (hk : 2 * k + 1 < m.toNat)
    (hc : childL ltQ qz L k m.toNat = c) (hcm : c < m.toNat) (hkc : k < c) :
    (n = L.length ∧ (0 ≤ (c : Int) ∧ (c : Int) < (n : Int)) ∧ 0 ≤ (k : Int) ∧ (k : Int) < (n : Int)) ∧
    bif !ltQ (L.getD c qz) (L.getD k qz) then decide (i < (k : Int)) = decide (i < (R.2 : Int)) ∧ L = R.1
    else (n = L.length ∧ (0 ≤ (k : Int) ∧ (k : Int) < (n : Int)) ∧ 0 ≤ (c : Int) ∧ (c : Int) < (n : Int)) ∧ ∃ y : Nat × List (Int × Int), ((c : Int) = (y.1 : Int) ∧ swapL qz L k c = y.2) ∧
      (y.2.length = n ∧ y.1 ≤ 1000000 ∧ downL ltQ qz m.toNat (m.toNat - y.1) y.2 y.1 = R) ∧ m.toNat - y.1 < m.toNat - k := by
  refine ⟨⟨hl.symm, ⟨by omega, by omega⟩, by omega, by omega⟩, ?_⟩
  rw [downL_step ltQ qz L hk, hc] at he
  cases hlt : ltQ (L.getD c qz) (L.getD k qz) with
  | false =>
    rw [hlt] at he
    simp only [Bool.not_false, cond_true]
    rw [cond_false] at he
    rw [← he]; exact ⟨rfl, rfl⟩
  | true =>
    rw [hlt, cond_true] at he
    simp only [Bool.not_true, cond_false]
    exact ⟨⟨hl.symm, ⟨by omega, by omega⟩, by omega, by omega⟩, (c, swapL qz L k c), ⟨rfl, rfl⟩, ⟨by simp only [swapL_len]; exact hl, by simp only; omega, he⟩, by simp only; omega⟩

theorem pure129b (n : Nat) (i m : Int) (l : List (Int × Int)) (h1 : n = l.length ∧ n ≤ 1000000) (h2 : (0 ≤ i ∧ i ≤ 1000000) ∧ 0 ≤ m ∧ m ≤ n) : P129b n i m l := by
  obtain ⟨rfl, h1⟩ := h1
  obtain ⟨⟨h4, h5⟩, h6, h7⟩ := h2
  unfold P129b
  simp only [eq_self, true_and, and_true, Int.toNat_natCast]
  refine ⟨(i.toNat, l), ⟨⟨(Int.toNat_of_nonneg h4).symm, rfl⟩, rfl, by simp only; omega, rfl⟩, fun x hx _ => ?_⟩
  obtain ⟨k, L⟩ := x
  obtain ⟨hl, hk, he⟩ := hx
  simp only at hl hk he ⊢
  have w1 : IntKind.i64.wrap (IntKind.i64.wrap (2 * (k : Int)) + 1) = ((2 * k + 1 : Nat) : Int) := by
    rw [w64 (n := 2 * (k : Int)) (by omega) (by omega), w64 (by omega) (by omega)]; omega
  have w2 : IntKind.i64.wrap (((2 * k + 1 : Nat) : Int) + 1) = ((2 * k + 2 : Nat) : Int) := by rw [w64 (by omega) (by omega)]; omega
  rw [w1, w2]
  simp only [Int.toNat_natCast]
  rintro _ rfl
  generalize downL ltQ qz m.toNat (m.toNat - i.toNat) l i.toNat = R at *
  by_cases c1 : m ≤ ((2 * k + 1 : Nat) : Int)
  · simp only [c1, decide_true, cond_true, Bool.not_true]
    rw [downL_stop ltQ qz L (by omega)] at he
    rw [← he]
    simp
  · have c2 : ¬ ((2 * k + 1 : Nat) : Int) < 0 := by omega
    simp only [c1, c2, decide_false, cond_false, Bool.not_false]
    refine ⟨by simp, ?_⟩
    have hcc := childL_cases ltQ qz L k m.toNat
    by_cases c3 : ((2 * k + 2 : Nat) : Int) < m
    · simp only [c3, decide_true, cond_true]
      refine ⟨⟨hl.symm, ⟨by omega, by omega⟩, by omega, by omega⟩, ?_⟩
      cases hlt : ltQ (L.getD (2 * k + 2) qz) (L.getD (2 * k + 1) qz) with
      | true =>
        simp only [cond_true]
        refine tail129b hl h1 (by omega) he (by omega) ?_ (by omega) (by omega)
        rcases hcc with ⟨_, h⟩ | ⟨h, _⟩
        · have := h (by omega); rw [hlt] at this; cases this
        · exact h
      | false =>
        simp only [cond_false]
        refine tail129b hl h1 (by omega) he (by omega) ?_ (by omega) (by omega)
        rcases hcc with ⟨h, _⟩ | ⟨_, _, h⟩
        · exact h
        · rw [hlt] at h; cases h
    · simp only [c3, decide_false, cond_false]
      refine ⟨by simp, ?_⟩
      refine tail129b hl h1 (by omega) he (by omega) ?_ (by omega) (by omega)
      rcases hcc with ⟨h, _⟩ | ⟨_, h, _⟩
      · exact h
      · omega

theorem pure94b (n : Nat) (l : List (Int × Int)) (a b : Int) (h1 : n = l.length ∧ n ≤ 1000) : P94b n l a b := by
  obtain ⟨rfl, h1⟩ := h1
  unfold P94b
  have w1 : IntKind.i64.wrap (((l.length + 1 : Nat) : Int) - 1) = (l.length : Int) := by rw [w64 (by omega) (by omega)]; omega
  rw [w1]
  simp only [eq_self, true_and, and_true, Int.toNat_natCast, List.length_append, List.length_singleton]
  exact ⟨by omega, ⟨by omega, ⟨by omega, by omega⟩⟩, rfl⟩

theorem pure103 (n : Nat) (l : List (Int × Int)) (h : n = l.length ∧ 0 < n ∧ n ≤ 1000) : P103 n l := by
  obtain ⟨rfl, h2, h3⟩ := h
  unfold P103
  have w : IntKind.i64.wrap ((l.length : Int) - 1) = ((l.length - 1 : Nat) : Int) := by rw [w64 (by omega) (by omega)]; omega
  rw [w]
  simp only [Int.toNat_natCast, Nat.sub_zero]
  have hs := swapL_getD qz (l := l) (i := 0) (j := l.length - 1) (by omega) (by omega) (l.length - 1)
  rw [if_pos rfl] at hs
  have hk := downL_keep ltQ qz (l.length - 1) (l.length - 1) (swapL qz l 0 (l.length - 1)) 0 (by rw [swapL_len]; omega) (l.length - 1) (Nat.le_refl _)
  rw [hs] at hk
  rw [hk]
  refine ⟨⟨trivial, ⟨by omega, by omega⟩, by omega, by omega⟩, ⟨⟨(swapL_len _ _ _ _).symm, by omega⟩, ⟨by omega, by omega⟩, by omega, by omega⟩, ⟨?_, by omega, by omega⟩, ?_⟩
  · rw [downL_len, swapL_len]
  · simp only [eq_self, true_and, and_true]
    rfl
end Go.SL.A

/- Functions do what they are held to do. -/
namespace Go.SL.A
open Go Go.SL Go.SL.S
theorem snd128b : Sound Go.Proofs.Tryd.prog G128b := snd189.addM ⟨_, Go.Proofs.Tryd.func127, by kernel_rfl, by kernel_rfl⟩ (by
  intro args ins out h hp
  unfold sp128b at h
  split at h
  · rename_i j n l
    cases h
    exact vcFun_ok (C := C128b) good snd189 methOk18 mix Go.Proofs.Tryd.func127 (ann128b n j l) (fun hw => by rw [← vc128b n j l]; exact pure128b n j l hp.1 hp.2)
  · cases h)

theorem snd129b : Sound Go.Proofs.Tryd.prog G129b := snd128b.addM ⟨_, Go.Proofs.Tryd.func128, by kernel_rfl, by kernel_rfl⟩ (by
  intro args ins out h hp
  unfold sp129b at h
  split at h
  · rename_i i m n l
    cases h
    exact vcFun_ok (C := C129b) good snd128b methOk18 mix Go.Proofs.Tryd.func128 (ann129b n i m l) (fun hw => by rw [← vc129b n i m l]; exact pure129b n i m l hp.1 hp.2)
  · cases h)

theorem snd94b : Sound Go.Proofs.Tryd.prog G94b := snd129b.addM ⟨_, Go.Proofs.Tryd.func106, by kernel_rfl, by kernel_rfl⟩ (by
  intro args ins out h hp
  unfold sp94b at h
  split at h
  · rename_i a b n l
    cases h
    exact vcFun_ok (C := C94b) good snd129b methOk18 mix Go.Proofs.Tryd.func106 (ann94b n l a b) (fun hw => by rw [← vc94b n l a b]; exact pure94b n l a b hp)
  · cases h)

theorem snd103 : Sound Go.Proofs.Tryd.prog G103 := snd94b.add ⟨_, Go.Proofs.Tryd.func108, by kernel_rfl, by kernel_rfl⟩ (by
  intro args ins out h hp
  unfold sp103 at h
  split at h
  · rename_i n l
    cases h
    exact vcFun_ok (C := C103) good snd94b methOk18 mix Go.Proofs.Tryd.func108 (ann103 n l) (fun hw => by rw [← vc103 n l]; exact pure103 n l hp)
  · cases h)

end Go.SL.A

/- Give: plain functions. -/
namespace Go.SL.S
open Go Go.SL
def badF (x : Int) : Bool := decide (x < 0) || decide (15 < x)
def rightF (s : List Int) : Bool := !s.any badF
def costF : List Int := (List.range 13).map fun k : Nat => bitsF (k : Int)
def sumC : List Int → Int
  | [] => 0
  | x :: l => bitsF x + sumC l
def giveB (size : Int) : Int := if size < 12 ∨ 24 < size then 0 else 8 * size - 64
def z8 : List Int := [0, 0, 0, 0, 0, 0, 0, 0]
/-- What one pulse more costs. -/
def moreF (k : Int) : Int := costF.getD (k + 1).toNat 0 - costF.getD k.toNat 0

abbrev GS : Type := List (Int × Int) × List Int × Int
def pushQ (s : List Int) : Nat → List (Int × Int)
  | 0 => []
  | i + 1 => pushL ltQ qz (pushQ s i) ((i : Int), s.getD i 0)
def noMore (n bits : Int) : Bool := decide (12 ≤ n) || decide (bits < moreF n)
def giveStep (x : GS) : GS :=
  let t := x.1.getD 0 qz
  let n := x.2.1.getD t.1.toNat 0
  if noMore n x.2.2 then (popL ltQ qz x.1, x.2.1, x.2.2) else (pushL ltQ qz (popL ltQ qz x.1) (t.1, t.2 - 1), x.2.1.set t.1.toNat (n + 1), x.2.2 - moreF n)
def sumK : List Int → Int
  | [] => 0
  | x :: l => x + sumK l
def giveMu (x : GS) : Nat := x.1.length + 2 * (96 - sumK x.2.1).toNat
def giveRun : Nat → GS → GS
  | 0, x => x
  | f + 1, x => match x.1 with
    | [] => x
    | _ => giveRun f (giveStep x)
def giveF (s : List Int) (bits : Int) : List Int := (giveRun 200 (pushQ s 8, z8, bits)).2.1
def giveE (s : List Int) (bits : Int) : Int := if rightF s = false ∨ bits < 0 ∨ 1048576 < bits then 1 else 0
def giveV (s : List Int) (bits : Int) : List Int := if giveE s bits = 0 then giveF s bits else z8

def bestTo (s k : List Int) (bits : Int) : Nat → Int
  | 0 => -1
  | b + 1 => if k.getD b 0 < 12 ∧ moreF (k.getD b 0) ≤ bits ∧ (bestTo s k bits b < 0 ∨ s.getD (bestTo s k bits b).toNat 0 - k.getD (bestTo s k bits b).toNat 0 < s.getD b 0 - k.getD b 0) then (b : Int) else bestTo s k bits b
def refRun (s : List Int) : Nat → List Int × Int → List Int
  | 0, x => x.1
  | f + 1, x => if bestTo s x.1 x.2 8 < 0 then x.1 else
      refRun s f (x.1.set (bestTo s x.1 x.2 8).toNat (x.1.getD (bestTo s x.1 x.2 8).toNat 0 + 1), x.2 - moreF (x.1.getD (bestTo s x.1 x.2 8).toNat 0))
def refF (s : List Int) (bits : Int) : List Int := refRun s 100 (z8, bits)
def held8 (s : List Int) : List Int := s.map fun x => iand .i64 x 15
end Go.SL.S

/- Functions and what they are held to do: bound to their code. -/
namespace Go.SL.A
open Go Go.SL Go.SL.S
set_option maxRecDepth 100000
noncomputable def C131 : Ctx := ⟨Go.Proofs.Tryd.prog, D, G103, meth18, fun _ => []⟩
def ann131 (_x : Int) : Nat → St → Option Ann := fun _ _ => none
def out131 (x : Int) : COut := ⟨[], .v .bool (badF x), [], []⟩
def sp131 : Spec := fun args ins => match args, ins with
  | [⟨.int .i64, x⟩], [] => some (out131 x)
  | _, _ => none
def G131 := addG G103 103 sp131
def P131 (x : Int) : Prop :=
  ∀ (b : Bool), decide (x < (0 : Int)) = b → (((!b) = true → (!b) = true) ∧ (b = false → (!b) = true)) ∧ (bif b then true else decide ((15 : Int) < x)) = badF x
theorem vc131 (x : Int) : P131 x = vcFun C131 (ann131 x) Go.Proofs.Tryd.f103 [⟨.int .i64, x⟩] [] (out131 x) := by kernel_rfl

noncomputable def C90b : Ctx := ⟨Go.Proofs.Tryd.prog, D, G131, meth18, fun _ => []⟩
def ann90b (s : List Int) : Nat → St → Option Ann := fun _ _ => some ⟨Nat, [0, 1, 7], [0], fun i => [(8, .v (.int .i64) (i : Int))], fun _ => [], fun i => i ≤ 8 ∧ findIx badF s 0 = findIx badF (s.drop i) i, fun i => 8 - i⟩
def out90b (s : List Int) : COut := ⟨[], .v (.int .i64) (findIx badF s 0), [], []⟩
def sp90b : Spec := fun args ins => match args, ins with
  | [⟨.ref .slice, .slice 0 (.arr 8 (.int .i64)) [0] 0 8⟩, ⟨.ref .func, .func (.func 103) [] []⟩], [⟨false, true, .arr 8 (.int .i64), [s]⟩] => some (out90b s)
  | _, _ => none
def G90b := addM G131 68 sp90b
def P90b (s : List Int) : Prop :=
  ∃ (x : Nat), (((0 : Nat) = (0 : Nat) ∧ (0 : Nat) = (0 : Nat) ∧ (8 : Nat) = (8 : Nat) ∧ (↑(8 : Nat) : Int) = (↑(8 : Nat) : Int) ∧ (0 : Int) = (↑x : Int) ∧ s = s ∧ false = false) ∧ x ≤ (8 : Nat) ∧ findIx badF s (0 : Nat) =
  findIx badF (List.drop x s) x) ∧ ∀ (x : Nat), x ≤ (8 : Nat) ∧ findIx badF s (0 : Nat) = findIx badF (List.drop x s) x → IntKind.min IntKind.i64 ≤ (↑x : Int) ∧ (↑x : Int) ≤ IntKind.max IntKind.i64 → bif decide ((↑x : Int)
  < (↑(8 : Nat) : Int)) then (((0 : Int) ≤ (↑x : Int) ∧ (↑x : Int) < (↑(8 : Nat) : Int)) ∧ (0 : Nat) + Int.toNat (↑x : Int) < (8 : Nat)) ∧ bif badF (List.getD s ((0 : Nat) + Int.toNat (↑x : Int)) (0 : Int)) then (↑x : Int)
  = findIx badF s (0 : Nat) ∧ s = s ∧ false = false else ∃ (y : Nat), ((0 : Nat) = (0 : Nat) ∧ (0 : Nat) = (0 : Nat) ∧ (8 : Nat) = (8 : Nat) ∧ (↑(8 : Nat) : Int) = (↑(8 : Nat) : Int) ∧ IntKind.wrap IntKind.i64 ((↑x : Int) +
  (1 : Int)) = (↑y : Int) ∧ s = s ∧ false = false) ∧ (y ≤ (8 : Nat) ∧ findIx badF s (0 : Nat) = findIx badF (List.drop y s) y) ∧ (8 : Nat) - y < (8 : Nat) - x else (-1 : Int) = findIx badF s (0 : Nat) ∧ s = s ∧ false =
  false
theorem vc90b (s : List Int) : P90b s = vcFun C90b (ann90b s) Go.Proofs.Tryd.f68 [⟨.ref .slice, .slice 0 (.arr 8 (.int .i64)) [0] 0 8⟩, ⟨.ref .func, .func (.func 103) [] []⟩] [⟨false, true, .arr 8 (.int .i64), [s]⟩] (out90b s) := by kernel_rfl

noncomputable def C130 : Ctx := ⟨Go.Proofs.Tryd.prog, D, G90b, meth18, fun _ => []⟩
def ann130 (_s : List Int) : Nat → St → Option Ann := fun _ _ => none
def out130 (s : List Int) : COut := ⟨[], .v .bool (s.any badF), [], []⟩
def sp130 : Spec := fun args ins => match args, ins with
  | [⟨.ref .slice, .slice 0 (.arr 8 (.int .i64)) [0] 0 8⟩, ⟨.ref .func, .func (.func 103) [] []⟩], [⟨false, true, .arr 8 (.int .i64), [s]⟩] => some (out130 s)
  | _, _ => none
def G130 := addG G90b 102 sp130
def P130 (s : List Int) : Prop :=
  decide ((0 : Int) ≤ findIx badF s (0 : Nat)) = List.any s badF ∧ s = s ∧ false = false
theorem vc130 (s : List Int) : P130 s = vcFun C130 (ann130 s) Go.Proofs.Tryd.f102 [⟨.ref .slice, .slice 0 (.arr 8 (.int .i64)) [0] 0 8⟩, ⟨.ref .func, .func (.func 103) [] []⟩] [⟨false, true, .arr 8 (.int .i64), [s]⟩] (out130 s) := by kernel_rfl

noncomputable def C99 : Ctx := ⟨Go.Proofs.Tryd.prog, D, G130, meth18, fun _ => []⟩
def ann99 (_s : List Int) : Nat → St → Option Ann := fun _ _ => none
def out99 (s : List Int) : COut := ⟨[], .v .bool (rightF s), [], []⟩
def sp99 : Spec := fun args ins => match args, ins with
  | [⟨.arr 8 (.int .i64), s⟩], [] => some (out99 s)
  | _, _ => none
def G99 := addG G130 79 sp99
def P99 (s : List Int) : Prop :=
  (8 : Nat) ≤ (9223372036854775807 : Nat) ∧ (!List.any s badF) = rightF s
theorem vc99 (s : List Int) : P99 s = vcFun C99 (ann99 s) Go.Proofs.Tryd.f79 [⟨.arr 8 (.int .i64), s⟩] [] (out99 s) := by kernel_rfl

noncomputable def C100 : Ctx := ⟨Go.Proofs.Tryd.prog, D, G99, meth18, fun _ => []⟩
def ann100  : Nat → St → Option Ann := fun _ _ => some ⟨Nat, [0, 1], [0], fun i => [(3, .v (.int .i64) (i : Int))], fun i => [(1, some ⟨false, true, .arr 13 (.int .i64), [costF.take i ++ (List.replicate 13 0).drop i]⟩)], fun i => i ≤ 13, fun i => 13 - i⟩
def out100  : COut := ⟨[], .v (.arr 13 (.int .i64)) costF, [], []⟩
def sp100 : Spec := fun args ins => match args, ins with
  | [], [] => some out100
  | _, _ => none
def G100 := addG G99 104 sp100
def P100  : Prop :=
  ∃ (x : Nat), (((0 : Nat) = (0 : Nat) ∧ (0 : Nat) = (0 : Nat) ∧ (0 : Int) = (↑x : Int) ∧ (0 : Int) :: List.replicate (nat_lit 12) (0 : Int) = List.replicate (13 : Nat) (0 : Int) ∧ false = false ∧ (0 : Int) ::
  List.replicate (nat_lit 12) (0 : Int) = List.take x costF ++ List.drop x (List.replicate (13 : Nat) (0 : Int)) ∧ false = false) ∧ x ≤ (13 : Nat)) ∧ ∀ (x : Nat), x ≤ (13 : Nat) → (IntKind.min IntKind.i64 ≤ (↑x : Int) ∧ (↑x
  : Int) ≤ IntKind.max IntKind.i64 ∧ ∀ (y : List Int), List.Mem y [List.take x costF ++ List.drop x (List.replicate (13 : Nat) (0 : Int))] → List.length y = (13 : Nat) ∧ ∀ (y_1 : Int), List.Mem y_1 y → IntKind.min
  IntKind.i64 ≤ y_1 ∧ y_1 ≤ IntKind.max IntKind.i64) → bif decide ((↑x : Int) < (13 : Int)) then (((0 : Int) ≤ (↑x : Int) ∧ (↑x : Int) < (↑(13 : Nat) : Int)) ∧ Int.toNat (↑x : Int) < (13 : Nat)) ∧ ∃ (y : Nat), ((0 : Nat) =
  (0 : Nat) ∧ (0 : Nat) = (0 : Nat) ∧ IntKind.wrap IntKind.i64 ((↑x : Int) + (1 : Int)) = (↑y : Int) ∧ (0 : Int) :: List.replicate (nat_lit 12) (0 : Int) = List.replicate (13 : Nat) (0 : Int) ∧ false = false ∧ List.set
  (List.take x costF ++ List.drop x (List.replicate (13 : Nat) (0 : Int))) (Int.toNat (↑x : Int)) (bitsF (↑x : Int)) = List.take y costF ++ List.drop y (List.replicate (13 : Nat) (0 : Int)) ∧ false = false) ∧ y ≤ (13 : Nat)
  ∧ (13 : Nat) - y < (13 : Nat) - x else List.append (List.take x costF) (List.drop x (List.replicate (13 : Nat) (0 : Int))) = costF
theorem vc100 : P100  = vcFun C100 (ann100 ) Go.Proofs.Tryd.f104 [] [] out100 := by kernel_rfl

noncomputable def C59 : Ctx := ⟨Go.Proofs.Tryd.prog, D, G100, meth18, fun _ => []⟩
def ann59 (_s : Int) : Nat → St → Option Ann := fun _ _ => none
def out59 (s : Int) : COut := ⟨[], .v (.int .i64) (giveB s), [], []⟩
def sp59 : Spec := fun args ins => match args, ins with
  | [⟨.int .i64, s⟩], [] => some (out59 s)
  | _, _ => none
def G59 := addG G100 78 sp59
def P59 (s : Int) : Prop :=
  ∀ (b : Bool), decide (s < (12 : Int)) = b → (((!b) = true → (!b) = true) ∧ (b = false → (!b) = true)) ∧ bif bif b then true else decide ((24 : Int) < s) then (0 : Int) = giveB s else IntKind.wrap IntKind.i64 (IntKind.wrap
  IntKind.i64 ((8 : Int) * s) - (64 : Int)) = giveB s
theorem vc59 (s : Int) : P59 s = vcFun C59 (ann59 s) Go.Proofs.Tryd.f78 [⟨.int .i64, s⟩] [] (out59 s) := by kernel_rfl

noncomputable def C60 : Ctx := ⟨Go.Proofs.Tryd.prog, D, G59, meth18, fun _ => []⟩
def ann60 (s : List Int) : Nat → St → Option Ann := fun _ _ => some ⟨Nat, [1], [0], fun i => [(3, .v (.int .i64) (i : Int))], fun _ => [], fun i => i ≤ 8 ∧ (s.take i).any badF = false, fun i => 8 - i⟩
def out60 (s : List Int) : COut := ⟨[], .v .bool (rightF s), [], []⟩
def sp60 : Spec := fun args ins => match args, ins with
  | [⟨.arr 8 (.int .i64), s⟩], [] => some (out60 s)
  | _, _ => none
def G60 := addG G59 21 sp60
def P60 (s : List Int) : Prop :=
  ∃ (x : Nat), (((0 : Nat) = (0 : Nat) ∧ (0 : Int) = (↑x : Int) ∧ s = s ∧ false = false) ∧ x ≤ (8 : Nat) ∧ List.any (List.take x s) badF = false) ∧ ∀ (x : Nat), x ≤ (8 : Nat) ∧ List.any (List.take x s) badF = false →
  IntKind.min IntKind.i64 ≤ (↑x : Int) ∧ (↑x : Int) ≤ IntKind.max IntKind.i64 → bif decide ((↑x : Int) < (8 : Int)) then ∀ (b : Bool), decide (List.getD s (Int.toNat (↑x : Int)) (0 : Int) < (0 : Int)) = b → (((0 : Int) ≤
  (↑x : Int) ∧ (↑x : Int) < (↑(8 : Nat) : Int)) ∧ Int.toNat (↑x : Int) < (8 : Nat) ∧ ((!b) = true → (!b) = true ∧ (0 : Int) ≤ (↑x : Int) ∧ (↑x : Int) < (↑(8 : Nat) : Int)) ∧ ((!b) = true → (!b) = true ∧ Int.toNat (↑x : Int)
  < (8 : Nat)) ∧ ((!b) = true → (!b) = true) ∧ (b = false → (!b) = true)) ∧ bif bif b then true else decide ((15 : Int) < List.getD s (Int.toNat (↑x : Int)) (0 : Int)) then false = rightF s else ∃ (y : Nat), ((0 : Nat) = (0
  : Nat) ∧ IntKind.wrap IntKind.i64 ((↑x : Int) + (1 : Int)) = (↑y : Int) ∧ s = s ∧ false = false) ∧ (y ≤ (8 : Nat) ∧ List.any (List.take y s) badF = false) ∧ (8 : Nat) - y < (8 : Nat) - x else true = rightF s
theorem vc60 (s : List Int) : P60 s = vcFun C60 (ann60 s) Go.Proofs.Tryd.f21 [⟨.arr 8 (.int .i64), s⟩] [] (out60 s) := by kernel_rfl

noncomputable def C61 : Ctx := ⟨Go.Proofs.Tryd.prog, D, G60, meth18, fun _ => []⟩
def ann61 (k : Int) : Nat → St → Option Ann := fun _ _ => some ⟨Nat × Int, [], [], fun x => [(3, .v (.int .i64) (x.1 : Int)), (4, .v (.int .i64) x.2)], fun _ => [], fun x => x.1 + bitLen x.2.toNat = bitLen (countF 4 k - 1).toNat ∧ x.2 ≤ 10000000000, fun x => x.2.toNat⟩
def out61 (k : Int) : COut := ⟨[0 ≤ k ∧ k ≤ 12], .v (.int .i64) (bitsF k), [], []⟩
def sp61 : Spec := fun args ins => match args, ins with
  | [⟨.int .i64, k⟩], [] => some (out61 k)
  | _, _ => none
def G61 := addG G60 85 sp61
def P61 (k : Int) : Prop :=
  ((0 : Int) ≤ (4 : Int) ∧ (4 : Int) ≤ (8 : Int) ∧ (0 : Int) ≤ k ∧ k ≤ (12 : Int)) ∧ ∃ (x : Nat × Int), (((0 : Int) = (↑(Prod.fst x) : Int) ∧ IntKind.wrap IntKind.i64 (cnt (4 : Nat) (Int.toNat k) - (1 : Int)) = Prod.snd x)
  ∧ Prod.fst x + bitLen (Int.toNat (Prod.snd x)) = bitLen (Int.toNat (countF (4 : Int) k - (1 : Int))) ∧ Prod.snd x ≤ (10000000000 : Int)) ∧ ∀ (x : Nat × Int), Prod.fst x + bitLen (Int.toNat (Prod.snd x)) = bitLen
  (Int.toNat (countF (4 : Int) k - (1 : Int))) ∧ Prod.snd x ≤ (10000000000 : Int) → IntKind.min IntKind.i64 ≤ (↑(Prod.fst x) : Int) ∧ (↑(Prod.fst x) : Int) ≤ IntKind.max IntKind.i64 ∧ IntKind.min IntKind.i64 ≤ Prod.snd x ∧
  Prod.snd x ≤ IntKind.max IntKind.i64 → bif decide ((0 : Int) < Prod.snd x) then (2 : Int) ≠ (0 : Int) ∧ ∃ (y : Nat × Int), (IntKind.wrap IntKind.i64 ((↑(Prod.fst x) : Int) + (1 : Int)) = (↑(Prod.fst y) : Int) ∧
  IntKind.wrap IntKind.i64 (Int.tdiv (Prod.snd x) (2 : Int)) = Prod.snd y) ∧ (Prod.fst y + bitLen (Int.toNat (Prod.snd y)) = bitLen (Int.toNat (countF (4 : Int) k - (1 : Int))) ∧ Prod.snd y ≤ (10000000000 : Int)) ∧
  Int.toNat (Prod.snd y) < Int.toNat (Prod.snd x) else (↑(Prod.fst x) : Int) = bitsF k
theorem vc61 (k : Int) : P61 k = vcFun C61 (ann61 k) Go.Proofs.Tryd.f85 [⟨.int .i64, k⟩] [] (out61 k) := by kernel_rfl

end Go.SL.A

/- Give: small functions. -/
namespace Go.SL.A
open Go Go.SL Go.SL.S

theorem hw90b {s : List Int} (hw : Go.SL.allP (List.flatMap (fun a : AV => a.t.wf a.x) [⟨.ref .slice, .slice 0 (.arr 8 (.int .i64)) [0] 0 8⟩, ⟨.ref .func, .func (.func 131) [] []⟩] ++ List.flatMap Blk.wf [⟨false, true, .arr 8 (.int .i64), [s]⟩])) : s.length = 8 := by
  simp only [List.flatMap_cons, List.flatMap_nil, Ty.wf, Blk.wf, List.append_nil, List.cons_append, List.nil_append, Go.SL.allP] at hw
  exact (hw s (by simp)).1
theorem hw58 {k : List Int} (hw : Go.SL.allP (List.flatMap (fun a : AV => a.t.wf a.x) [⟨.arr 8 (.int .i64), k⟩] ++ List.flatMap Blk.wf [])) : k.length = 8 := by
  simp only [List.flatMap_cons, List.flatMap_nil, Ty.wf, List.append_nil, List.cons_append, List.nil_append, Go.SL.allP] at hw
  exact hw.1

theorem pure131 (x : Int) : P131 x := by
  unfold P131
  intro b hb
  refine ⟨by cases b <;> simp, ?_⟩
  unfold badF; rw [hb]
  cases b <;> simp

theorem pure90b (s : List Int) (hl : s.length = 8) : P90b s := by
  unfold P90b
  simp only [eq_self, true_and, and_true, Int.toNat_natCast, Nat.zero_add]
  refine ⟨0, ⟨rfl, by omega, rfl⟩, fun i hi _ => ?_⟩
  obtain ⟨hi, he⟩ := hi
  by_cases h8 : (i : Int) < ((8 : Nat) : Int)
  · have his : i < s.length := by omega
    have ed : s.drop i = s.getD i 0 :: s.drop (i + 1) := by
      rw [List.drop_eq_getElem_cons his]; simp [his]
    rw [ed, findIx] at he
    simp only [h8, decide_true, cond_true]
    refine ⟨by simp; omega, ?_⟩
    cases hb : badF (s.getD i 0) with
    | true => rw [hb, if_pos rfl] at he; simp only [cond_true]; exact he.symm
    | false =>
      rw [hb, if_neg (by simp)] at he
      simp only [cond_false]
      exact ⟨i + 1, step_i (by omega), ⟨by omega, he⟩, by omega⟩
  · have : i = 8 := by omega
    subst this
    simp only [h8, decide_false, cond_false]
    rw [he, List.drop_eq_nil_of_le (by omega)]; rfl

theorem pure130 (s : List Int) (_hl : s.length = 8) : P130 s := by
  unfold P130
  simp only [eq_self, true_and, and_true]
  exact findIx_sign badF s 0

theorem pure99 (s : List Int) : P99 s := by
  unfold P99
  exact ⟨by decide, rfl⟩

theorem costF_at {i : Nat} (h : i < 13) : costF[i]? = some (bitsF (i : Int)) := by
  unfold costF
  rw [List.getElem?_map, List.getElem?_range h]; rfl

theorem costF_len : costF.length = 13 := by simp [costF]

theorem cost_end {i : Nat} (h : 13 ≤ i) : List.take i costF ++ List.drop i (List.replicate 13 (0 : Int)) = costF := by
  rw [List.take_of_length_le (by rw [costF_len]; exact h), List.drop_eq_nil_of_le (by simp; exact h), List.append_nil]

theorem pure100 : P100 := by
  unfold P100
  simp only [eq_self, true_and, and_true, Int.toNat_natCast]
  refine ⟨0, ⟨⟨rfl, rfl, rfl⟩, by omega⟩, fun i hi _ => ?_⟩
  by_cases h : (i : Int) < 13
  · simp only [h, decide_true, cond_true]
    exact ⟨⟨by omega, by omega⟩, i + 1, ⟨step_i (by omega), rfl, set_step (by rw [costF_len]; omega) (by simp; omega) (costF_at (by omega))⟩, by omega, by omega⟩
  · simp only [h, decide_false, cond_false]
    exact cost_end (by omega)

theorem bitsF_fits (k : Int) : 0 ≤ bitsF k ∧ bitsF k ≤ 10000000000 := by
  have hc := countF_fits 4 k
  have hb := bitLen_le (m := (countF 4 k - 1).toNat) (by omega)
  have hq : bitsF k = (bitLen (countF 4 k - 1).toNat : Nat) := rfl
  rw [hq]; omega

theorem sumC_append : ∀ p q : List Int, sumC (p ++ q) = sumC p + sumC q
  | [], q => by simp [sumC]
  | x :: p, q => by simp only [List.cons_append, sumC, sumC_append p q]; omega

theorem sumC_fits : ∀ l : List Int, 0 ≤ sumC l ∧ sumC l ≤ l.length * 10000000000
  | [] => by simp [sumC]
  | x :: l => by
    have := sumC_fits l
    have := bitsF_fits x
    simp only [sumC, List.length_cons]; omega

theorem pure59 (s : Int) : P59 s := by
  unfold P59
  intro b hb
  refine ⟨by cases b <;> simp, ?_⟩
  by_cases h1 : s < 12
  · have : b = true := by rw [← hb]; simp [h1]
    rw [this]
    unfold giveB
    rw [if_pos (Or.inl h1)]; rfl
  · have : b = false := by rw [← hb]; simp [h1]
    rw [this]
    by_cases h2 : 24 < s
    · have e : giveB s = 0 := by unfold giveB; rw [if_pos (Or.inr h2)]
      rw [e]
      simp [h2]
    · have e : giveB s = 8 * s - 64 := by unfold giveB; rw [if_neg (by omega)]
      rw [e]
      simp only [h2, decide_false, cond_false]
      rw [w64 (n := 8 * s) (by omega) (by omega), w64 (by omega) (by omega)]

theorem pure60 (s : List Int) (hl : s.length = 8) : P60 s := by
  unfold P60
  simp only [eq_self, true_and, and_true, Int.toNat_natCast]
  refine ⟨0, ⟨rfl, by omega, rfl⟩, fun i hi _ => ?_⟩
  obtain ⟨hi, hh⟩ := hi
  by_cases h8 : (i : Int) < 8
  · have his : i < s.length := by omega
    simp only [h8, decide_true, cond_true]
    intro b hb
    refine ⟨⟨by omega, by omega, by cases b <;> simp <;> omega⟩, ?_⟩
    have e : (bif b then true else decide (15 < s.getD i 0)) = badF (s.getD i 0) := by
      unfold badF; rw [hb]; cases b <;> simp
    rw [e]
    cases hbd : badF (s.getD i 0) with
    | true =>
      simp only [cond_true]
      unfold rightF
      rw [List.any_eq_true.2 ⟨s.getD i 0, getD_mem his, hbd⟩]; rfl
    | false =>
      simp only [cond_false]
      refine ⟨i + 1, step_i (by omega), ⟨by omega, ?_⟩, by omega⟩
      rw [take_snoc' 0 his, List.any_append, hh]
      simpa using hbd
  · have : i = 8 := by omega
    subst this
    simp only [h8, decide_false, cond_false]
    rw [List.take_of_length_le (by omega)] at hh
    unfold rightF; rw [hh]; rfl

theorem pure61 (k : Int) (hk : 0 ≤ k ∧ k ≤ 12) : P61 k := by
  unfold P61
  have hc : countF 4 k = cnt 4 k.toNat := by unfold countF; rw [if_pos (by simp [mayF]; omega)]; rfl
  have hq : bitsF k = (bitLen (countF 4 k - 1).toNat : Nat) := rfl
  rw [hq, hc]
  have hf := countF_fits 4 k
  rw [hc] at hf
  generalize cnt 4 k.toNat = c at *
  rw [w64 (n := c - 1) (by omega) (by omega)]
  refine ⟨by omega, (0, c - 1), ⟨⟨rfl, rfl⟩, by simp, by simp only; omega⟩, fun x hx _ => ?_⟩
  obtain ⟨m, l⟩ := x
  obtain ⟨h1, h2⟩ := hx
  simp only at h1 h2 ⊢
  have hb := bitLen_le (m := (c - 1).toNat) (by omega)
  by_cases h : 0 < l
  · simp only [h, decide_true, cond_true]
    have w1 : IntKind.i64.wrap ((m : Int) + 1) = ((m + 1 : Nat) : Int) := by rw [w64 (by omega) (by omega)]; simp
    have d := tdm l (k := 2) (by decide)
    have w2 : IntKind.i64.wrap (l.tdiv 2) = l / 2 := by
      generalize l.tdiv 2 = q at *
      generalize l.tmod 2 = r at *
      rw [w64 (by omega) (by omega)]; omega
    refine ⟨by decide, (m + 1, l / 2), ⟨w1, w2⟩, ⟨?_, by simp only; omega⟩, by simp only; omega⟩
    have := bitLen_half (m := l.toNat) (by omega)
    simp only
    rw [show (l / 2).toNat = l.toNat / 2 by omega]; omega
  · simp only [h, decide_false, cond_false]
    have e : bitLen l.toNat = 0 := by rw [show l.toNat = 0 by omega]; rfl
    omega

end Go.SL.A

/- Functions do what they are held to do. -/
namespace Go.SL.A
open Go Go.SL Go.SL.S
theorem snd131 : Sound Go.Proofs.Tryd.prog G131 := snd103.add ⟨_, Go.Proofs.Tryd.func103, by kernel_rfl, by kernel_rfl⟩ (by
  intro args ins out h hp
  unfold sp131 at h
  split at h
  · rename_i x
    cases h
    exact vcFun_ok (C := C131) good snd103 methOk18 mix Go.Proofs.Tryd.func103 (ann131 x) (fun hw => by rw [← vc131 x]; exact pure131 x)
  · cases h)

theorem snd90b : Sound Go.Proofs.Tryd.prog G90b := snd131.addM ⟨_, Go.Proofs.Tryd.func68, by kernel_rfl, by kernel_rfl⟩ (by
  intro args ins out h hp
  unfold sp90b at h
  split at h
  · rename_i s
    cases h
    exact vcFun_ok (C := C90b) good snd131 methOk18 mix Go.Proofs.Tryd.func68 (ann90b s) (fun hw => by rw [← vc90b s]; exact pure90b s (hw90b hw))
  · cases h)

theorem snd130 : Sound Go.Proofs.Tryd.prog G130 := snd90b.add ⟨_, Go.Proofs.Tryd.func102, by kernel_rfl, by kernel_rfl⟩ (by
  intro args ins out h hp
  unfold sp130 at h
  split at h
  · rename_i s
    cases h
    exact vcFun_ok (C := C130) good snd90b methOk18 mix Go.Proofs.Tryd.func102 (ann130 s) (fun hw => by rw [← vc130 s]; exact pure130 s (hw90b hw))
  · cases h)

theorem snd99 : Sound Go.Proofs.Tryd.prog G99 := snd130.add ⟨_, Go.Proofs.Tryd.func79, by kernel_rfl, by kernel_rfl⟩ (by
  intro args ins out h hp
  unfold sp99 at h
  split at h
  · rename_i s
    cases h
    exact vcFun_ok (C := C99) good snd130 methOk18 mix Go.Proofs.Tryd.func79 (ann99 s) (fun hw => by rw [← vc99 s]; exact pure99 s)
  · cases h)

theorem snd100 : Sound Go.Proofs.Tryd.prog G100 := snd99.add ⟨_, Go.Proofs.Tryd.func104, by kernel_rfl, by kernel_rfl⟩ (by
  intro args ins out h hp
  unfold sp100 at h
  split at h
  · cases h
    exact vcFun_ok (C := C100) good snd99 methOk18 mix Go.Proofs.Tryd.func104 (ann100 ) (fun hw => by rw [← vc100 ]; exact pure100)
  · cases h)

theorem snd59 : Sound Go.Proofs.Tryd.prog G59 := snd100.add ⟨_, Go.Proofs.Tryd.func78, by kernel_rfl, by kernel_rfl⟩ (by
  intro args ins out h hp
  unfold sp59 at h
  split at h
  · rename_i s
    cases h
    exact vcFun_ok (C := C59) good snd100 methOk18 mix Go.Proofs.Tryd.func78 (ann59 s) (fun hw => by rw [← vc59 s]; exact pure59 s)
  · cases h)

theorem snd60 : Sound Go.Proofs.Tryd.prog G60 := snd59.add ⟨_, Go.Proofs.Tryd.func21, by kernel_rfl, by kernel_rfl⟩ (by
  intro args ins out h hp
  unfold sp60 at h
  split at h
  · rename_i s
    cases h
    exact vcFun_ok (C := C60) good snd59 methOk18 mix Go.Proofs.Tryd.func21 (ann60 s) (fun hw => by rw [← vc60 s]; exact pure60 s (hw58 hw))
  · cases h)

theorem snd61 : Sound Go.Proofs.Tryd.prog G61 := snd60.add ⟨_, Go.Proofs.Tryd.func85, by kernel_rfl, by kernel_rfl⟩ (by
  intro args ins out h hp
  unfold sp61 at h
  split at h
  · rename_i k
    cases h
    exact vcFun_ok (C := C61) good snd60 methOk18 mix Go.Proofs.Tryd.func85 (ann61 k) (fun hw => by rw [← vc61 k]; exact pure61 k hp)
  · cases h)

end Go.SL.A

/- Give: what is given; plain laws. -/
namespace Go.SL.S
open Go Go.SL

theorem pop_perm {α : Type} (lt : α → α → Bool) (d : α) {l : List α} (h : 0 < l.length) : (l.getD 0 d :: popL lt d l).Perm l := by
  have hs := swapL_perm d (l := l) (i := 0) (j := l.length - 1) h (by omega)
  have hd := downL_perm lt d (l.length - 1) (l.length - 1) (swapL d l 0 (l.length - 1)) 0 (by rw [swapL_len]; omega)
  have hk := downL_keep lt d (l.length - 1) (l.length - 1) (swapL d l 0 (l.length - 1)) 0 (by rw [swapL_len]; omega) (l.length - 1) (Nat.le_refl _)
  rw [swapL_getD d (by omega) (by omega), if_pos rfl] at hk
  have hl := downL_len lt d (l.length - 1) (l.length - 1) (swapL d l 0 (l.length - 1)) 0
  rw [swapL_len] at hl
  unfold popL
  generalize (downL lt d (l.length - 1) (l.length - 1) (swapL d l 0 (l.length - 1)) 0).1 = D at *
  have e : D = D.take (l.length - 1) ++ [l.getD 0 d] := by
    have : D.drop (l.length - 1) = [l.getD 0 d] := by
      rw [List.drop_eq_getElem_cons (by omega), List.drop_eq_nil_of_le (by omega)]
      rw [← hk, List.getD_eq_getElem?_getD, List.getElem?_eq_getElem (by omega)]; rfl
    rw [← this, List.take_append_drop]
  have p1 : (l.getD 0 d :: D.take (l.length - 1)).Perm (D.take (l.length - 1) ++ [l.getD 0 d]) := (List.perm_append_singleton _ _).symm
  rw [← e] at p1
  exact p1.trans (hd.trans hs)

theorem pop_len {α : Type} (lt : α → α → Bool) (d : α) {l : List α} (h : 0 < l.length) : (popL lt d l).length = l.length - 1 := by
  have := (pop_perm lt d h).length_eq
  simp only [List.length_cons] at this; omega

theorem pop_hp {α : Type} {lt : α → α → Bool} (o : Ord lt) (d : α) {l : List α} (h0 : 0 < l.length) (h : Hp lt d l l.length) : Hp lt d (popL lt d l) (popL lt d l).length := by
  rw [pop_len lt d h0]
  have hs := swapL_getD d (l := l) (i := 0) (j := l.length - 1) h0 (by omega)
  have hd := down_hp o d (n := l.length - 1) (l.length - 1) (swapL d l 0 (l.length - 1)) 0 (by omega) (by rw [swapL_len]; omega) (fun k hk0 hk hkp => by
    rw [hs, hs, if_neg (by omega), if_neg (by omega), if_neg (by omega), if_neg (by omega)]
    exact h k hk0 (by omega)) (fun k hk0 hk hkp hp => by omega)
  intro k hk0 hk
  have hg : ∀ j, j < l.length - 1 → (popL lt d l).getD j d = (downL lt d (l.length - 1) (l.length - 1) (swapL d l 0 (l.length - 1)) 0).1.getD j d := by
    intro j hj
    unfold popL
    rw [List.getD_eq_getElem?_getD, List.getD_eq_getElem?_getD, List.getElem?_take, if_pos hj]
  rw [hg k hk, hg _ (by omega)]
  exact hd k hk0 hk

theorem more_vals : (List.range 12).map (fun k : Nat => moreF (k : Int)) = [3, 2, 2, 1, 1, 1, 0, 1, 0, 1, 0, 1] := by decide +kernel

theorem more_nn {k : Int} (h0 : 0 ≤ k) (h : k < 12) : 0 ≤ moreF k ∧ moreF k ≤ 3 := by
  have e : moreF k = ((List.range 12).map (fun k : Nat => moreF (k : Int))).getD k.toNat 0 := by
    rw [List.getD_eq_getElem?_getD, List.getElem?_map, List.getElem?_range (by omega)]
    simp [Int.toNat_of_nonneg h0]
  rw [more_vals] at e
  have : k.toNat = 0 ∨ k.toNat = 1 ∨ k.toNat = 2 ∨ k.toNat = 3 ∨ k.toNat = 4 ∨ k.toNat = 5 ∨ k.toNat = 6 ∨ k.toNat = 7 ∨ k.toNat = 8 ∨ k.toNat = 9 ∨ k.toNat = 10 ∨ k.toNat = 11 := by omega
  rw [e]
  rcases this with h | h | h | h | h | h | h | h | h | h | h | h <;> rw [h] <;> decide

theorem more_bits {k : Int} (h0 : 0 ≤ k) (h : k < 12) : moreF k = bitsF (k + 1) - bitsF k := by
  unfold moreF costF
  simp only [List.getD_eq_getElem?_getD, List.getElem?_map]
  rw [List.getElem?_range (by omega), List.getElem?_range (by omega)]
  simp only [Option.map_some, Option.getD_some]
  rw [Int.toNat_of_nonneg (by omega), Int.toNat_of_nonneg h0]

theorem sumC_set : ∀ (l : List Int) (b : Nat) (v : Int), b < l.length → sumC (l.set b v) = sumC l + bitsF v - bitsF (l.getD b 0)
  | [], b, v, h => by simp at h
  | x :: l, 0, v, _ => by simp [sumC]; omega
  | x :: l, b + 1, v, h => by
    simp only [List.set_cons_succ, sumC, List.getD_cons_succ]
    rw [sumC_set l b v (by simpa using h)]; omega

theorem sumK_set : ∀ (l : List Int) (b : Nat) (v : Int), b < l.length → sumK (l.set b v) = sumK l + v - l.getD b 0
  | [], b, v, h => by simp at h
  | x :: l, 0, v, _ => by simp [sumK]; omega
  | x :: l, b + 1, v, h => by
    simp only [List.set_cons_succ, sumK, List.getD_cons_succ]
    rw [sumK_set l b v (by simpa using h)]; omega

theorem sumK_le : ∀ (l : List Int), (∀ b, b < l.length → l.getD b 0 ≤ 12) → sumK l ≤ 12 * l.length
  | [], _ => by simp [sumK]
  | x :: l, h => by
    have h1 := h 0 (by simp)
    have h2 := sumK_le l (fun b hb => by have := h (b + 1) (by simpa using hb); simpa using this)
    simp only [List.getD_cons_zero] at h1
    simp only [sumK, List.length_cons]; omega

theorem set_at (l : List Int) (b c : Nat) (v : Int) (h : b < l.length) : (l.set b v).getD c 0 = if c = b then v else l.getD c 0 := by
  simp only [List.getD_eq_getElem?_getD, List.getElem?_set]
  by_cases e : b = c
  · subst e; simp [h]
  · rw [if_neg e, if_neg (fun h => e h.symm)]

theorem sumC_z8 : sumC z8 = 0 := by decide +kernel

structure GI (s : List Int) (B : Int) (x : GS) : Prop where
  klen : x.2.1.length = 8
  kr : ∀ b, b < 8 → 0 ≤ x.2.1.getD b 0 ∧ x.2.1.getD b 0 ≤ 12
  b0 : 0 ≤ x.2.2
  sum : x.2.2 + sumC x.2.1 = B
  mem : ∀ w ∈ x.1, ∃ b : Nat, b < 8 ∧ w = ((b : Int), s.getD b 0 - x.2.1.getD b 0)
  nd : (x.1.map (·.1)).Nodup
  hp : Hp ltQ qz x.1 x.1.length
  len : x.1.length ≤ 8
  out : ∀ b : Nat, b < 8 → (∀ w ∈ x.1, w.1 ≠ (b : Int)) → noMore (x.2.1.getD b 0) x.2.2 = true

theorem GI.top {s : List Int} {B : Int} {x : GS} (h : GI s B x) (h0 : 0 < x.1.length) : ∃ b : Nat, b < 8 ∧ x.1.getD 0 qz = ((b : Int), s.getD b 0 - x.2.1.getD b 0) ∧
    (∀ w ∈ x.1, ltQ w (x.1.getD 0 qz) = false) ∧ (∀ w ∈ popL ltQ qz x.1, w ∈ x.1 ∧ w.1 ≠ (b : Int)) ∧ (∀ w ∈ x.1, w.1 ≠ (b : Int) → w ∈ popL ltQ qz x.1) ∧ ((popL ltQ qz x.1).map (·.1)).Nodup := by
  obtain ⟨b, hb, e⟩ := h.mem _ (show x.1.getD 0 qz ∈ x.1 by rw [List.getD_eq_getElem?_getD, List.getElem?_eq_getElem h0]; simp)
  have hp := pop_perm ltQ qz h0
  have hnd : ((x.1.getD 0 qz :: popL ltQ qz x.1).map (·.1)).Nodup := (hp.map _).nodup_iff.2 h.nd
  rw [List.map_cons, List.nodup_cons] at hnd
  refine ⟨b, hb, e, fun w hw => ?_, fun w hw => ⟨hp.subset (List.mem_cons_of_mem _ hw), fun hwb => ?_⟩, fun w hw hwb => ?_, hnd.2⟩
  · obtain ⟨k, hk, rfl⟩ := List.mem_iff_getElem.1 hw
    have := h.hp.first ltQ_ord k hk
    rw [List.getD_eq_getElem?_getD, List.getElem?_eq_getElem hk] at this
    exact this
  · apply hnd.1
    rw [e]
    exact List.mem_map.2 ⟨w, hw, hwb⟩
  · have hw := hp.symm.subset hw
    rcases List.mem_cons.1 hw with hw | hw
    · exfalso; apply hwb; rw [hw, e]
    · exact hw

theorem noMore_less {n a b : Int} (h : noMore n a = true) (hab : b ≤ a) : noMore n b = true := by
  unfold noMore at *
  simp only [Bool.or_eq_true, decide_eq_true_eq] at *
  omega

theorem GI.step {s : List Int} {B : Int} {x : GS} (h : GI s B x) (h0 : 0 < x.1.length) : GI s B (giveStep x) ∧ giveMu (giveStep x) < giveMu x := by
  obtain ⟨b, hb, e, hmin, hpop, hin, hnd⟩ := h.top h0
  have hpl := pop_len ltQ qz h0
  have hkr := h.kr b hb
  have hbl : b < x.2.1.length := by rw [h.klen]; exact hb
  have hsl := sumK_le x.2.1 (fun c hc => (h.kr c (by rw [← h.klen]; exact hc)).2)
  rw [h.klen] at hsl
  unfold giveStep giveMu
  simp only [e, Int.toNat_natCast]
  cases hn : noMore (x.2.1.getD b 0) x.2.2 with
  | true =>
    rw [if_pos rfl]
    refine ⟨⟨h.klen, h.kr, h.b0, h.sum, fun w hw => h.mem w (hpop w hw).1, hnd, pop_hp ltQ_ord qz h0 h.hp, by simp only [hpl]; have := h.len; omega, fun c hc hcw => ?_⟩, by simp only [hpl]; omega⟩
    by_cases ecb : c = b
    · subst ecb; exact hn
    · refine h.out c hc fun w hw hwc => ?_
      exact hcw w (hin w hw (by rw [hwc]; omega)) hwc
  | false =>
    rw [if_neg (by simp)]
    have hn' : x.2.1.getD b 0 < 12 ∧ moreF (x.2.1.getD b 0) ≤ x.2.2 := by
      unfold noMore at hn
      simp only [Bool.or_eq_false_iff, decide_eq_false_iff_not] at hn
      omega
    have hm := more_nn hkr.1 hn'.1
    have hmb := more_bits hkr.1 hn'.1
    have hset := set_at x.2.1 b
    have hpu := pushL_perm ltQ qz (popL ltQ qz x.1) ((b : Int), s.getD b 0 - x.2.1.getD b 0 - 1)
    refine ⟨⟨by simp only [List.length_set]; exact h.klen, fun c hc => ?_, by simp only; omega, ?_, fun w hw => ?_, ?_, ?_, by simp only [pushL_len, hpl]; have := h.len; omega, fun c hc hcw => ?_⟩, ?_⟩
    · simp only [hset c _ hbl]
      split
      · omega
      · exact h.kr c hc
    · simp only [sumC_set _ _ _ hbl]
      have := h.sum; omega
    · rcases List.mem_append.1 (hpu.subset hw) with hw | hw
      · obtain ⟨hw1, hw2⟩ := hpop w hw
        obtain ⟨c, hc, rfl⟩ := h.mem w hw1
        refine ⟨c, hc, ?_⟩
        have : c ≠ b := fun e => hw2 (by rw [e])
        simp only [hset c _ hbl, if_neg this]
      · rw [List.mem_singleton.1 hw]
        refine ⟨b, hb, ?_⟩
        simp only [hset b _ hbl, if_true]
        congr 1; omega
    · refine (hpu.map _).nodup_iff.2 ?_
      rw [List.map_append, List.nodup_append]
      refine ⟨hnd, by simp, fun c hc d hd => ?_⟩
      obtain ⟨w, hw, rfl⟩ := List.mem_map.1 hc
      simp only [List.map_cons, List.map_nil, List.mem_singleton] at hd
      rw [hd]; exact (hpop w hw).2
    · have := push_hp ltQ_ord qz ((b : Int), s.getD b 0 - x.2.1.getD b 0 - 1) (pop_hp ltQ_ord qz h0 h.hp)
      simp only [pushL_len]; exact this
    · have ecb : c ≠ b := fun e => hcw _ (hpu.symm.subset (List.mem_append_right _ (List.mem_singleton_self _))) (by rw [e])
      simp only [hset c _ hbl, if_neg ecb]
      refine noMore_less (h.out c hc fun w hw hwc => ?_) (show x.2.2 - moreF (x.2.1.getD b 0) ≤ x.2.2 by omega)
      exact hcw w (hpu.symm.subset (List.mem_append_left _ (hin w hw (by rw [hwc]; omega)))) hwc
    · simp only [pushL_len, hpl, sumK_set _ _ _ hbl]
      have e9 : sumK x.2.1 + (x.2.1.getD b 0 + 1) - x.2.1.getD b 0 = sumK x.2.1 + 1 := by omega
      rw [e9]
      have key : ∀ (m : Nat) (q : Int), 0 < m → q + 1 ≤ 96 → m - 1 + 1 + 2 * (96 - (q + 1)).toNat < m + 2 * (96 - q).toNat := by intro m q h1 h2; omega
      refine key _ _ h0 ?_
      have hs2 := sumK_le (x.2.1.set b (x.2.1.getD b 0 + 1)) (fun c hc => by
        rw [hset c _ hbl]
        split
        · omega
        · exact (h.kr c (by rw [List.length_set, h.klen] at hc; exact hc)).2)
      rw [List.length_set, h.klen, sumK_set _ _ _ hbl] at hs2
      omega

theorem giveRun_nil (f : Nat) (x : GS) (h : x.1 = []) : giveRun f x = x := by
  cases f with
  | zero => rfl
  | succ f => rw [giveRun, h]

theorem giveRun_step {f : Nat} {x : GS} (h : 0 < x.1.length) : giveRun (f + 1) x = giveRun f (giveStep x) := by
  rw [giveRun]
  cases hx : x.1 with
  | nil => rw [hx] at h; simp at h
  | cons a l => rfl

theorem giveRun_fuel {s : List Int} {B : Int} : ∀ (f : Nat) (x : GS), GI s B x → giveMu x ≤ f → giveRun f x = giveRun (giveMu x) x ∧ GI s B (giveRun f x) ∧ (giveRun f x).1 = [] := by
  intro f
  induction f using Nat.strongRecOn with
  | ind f ih =>
    intro x h hf
    by_cases h0 : 0 < x.1.length
    · obtain ⟨h1, h2⟩ := h.step h0
      obtain ⟨f, rfl⟩ : ∃ g, f = g + 1 := ⟨f - 1, by omega⟩
      obtain ⟨m, hm⟩ : ∃ m, giveMu x = m + 1 := ⟨giveMu x - 1, by omega⟩
      rw [giveRun_step h0, hm, giveRun_step h0]
      obtain ⟨i1, i2, i3⟩ := ih f (by omega) _ h1 (by omega)
      refine ⟨?_, i2, i3⟩
      by_cases hmf : m = f
      · rw [hmf]
      · rw [i1, (ih m (by omega) _ h1 (by omega)).1]
    · have hx : x.1 = [] := List.eq_nil_of_length_eq_zero (by omega)
      rw [giveRun_nil f x hx, giveRun_nil _ x hx]
      exact ⟨rfl, h, hx⟩

theorem pushQ_len (s : List Int) : ∀ k, (pushQ s k).length = k
  | 0 => rfl
  | k + 1 => by rw [pushQ, pushL_len, pushQ_len s k]

theorem pushQ_mem (s : List Int) : ∀ k w, w ∈ pushQ s k ↔ ∃ b : Nat, b < k ∧ w = ((b : Int), s.getD b 0)
  | 0, w => by simp [pushQ]
  | k + 1, w => by
    rw [pushQ, (pushL_perm ltQ qz _ _).mem_iff, List.mem_append, pushQ_mem s k w, List.mem_singleton]
    constructor
    · rintro (⟨b, hb, e⟩ | e)
      · exact ⟨b, by omega, e⟩
      · exact ⟨k, by omega, e⟩
    · rintro ⟨b, hb, e⟩
      by_cases h : b = k
      · subst h; exact .inr e
      · exact .inl ⟨b, by omega, e⟩

theorem pushQ_nd (s : List Int) : ∀ k, ((pushQ s k).map (·.1)).Nodup
  | 0 => by simp [pushQ]
  | k + 1 => by
    rw [pushQ]
    refine ((pushL_perm ltQ qz _ _).map _).nodup_iff.2 ?_
    rw [List.map_append, List.nodup_append]
    refine ⟨pushQ_nd s k, by simp, fun c hc d hd => ?_⟩
    obtain ⟨w, hw, rfl⟩ := List.mem_map.1 hc
    obtain ⟨b, hb, rfl⟩ := (pushQ_mem s k w).1 hw
    simp only [List.map_cons, List.map_nil, List.mem_singleton] at hd
    rw [hd]; simp only; omega

theorem pushQ_hp (s : List Int) : ∀ k, Hp ltQ qz (pushQ s k) k
  | 0 => fun j _ h => by omega
  | k + 1 => by
    have := push_hp ltQ_ord qz ((k : Int), s.getD k 0) (l := pushQ s k) (by rw [pushQ_len]; exact pushQ_hp s k)
    rw [pushQ_len] at this
    exact this

theorem z8_at (b : Nat) : z8.getD b 0 = 0 := by
  match b with
  | 0 | 1 | 2 | 3 | 4 | 5 | 6 | 7 => rfl
  | b + 8 => rw [List.getD_eq_getElem?_getD, List.getElem?_eq_none (by simp [z8])]; rfl

theorem GI.init (s : List Int) {B : Int} (hB : 0 ≤ B) : GI s B (pushQ s 8, z8, B) where
  klen := rfl
  kr := fun b _ => by simp only [z8_at]; omega
  b0 := hB
  sum := by simp only [sumC_z8]; omega
  mem := fun w hw => by
    obtain ⟨b, hb, e⟩ := (pushQ_mem s 8 w).1 hw
    exact ⟨b, hb, by rw [e]; simp only [z8_at]; congr 1; omega⟩
  nd := pushQ_nd s 8
  hp := by simp only [pushQ_len]; exact pushQ_hp s 8
  len := by simp only [pushQ_len]; omega
  out := fun b hb h => absurd rfl (h _ ((pushQ_mem s 8 _).2 ⟨b, hb, rfl⟩))

theorem giveMu_init (s : List Int) (B : Int) : giveMu (pushQ s 8, z8, B) = 200 := by
  unfold giveMu
  simp only [pushQ_len]
  decide

/-- What is given at the end. -/
theorem give_end (s : List Int) {B : Int} (hB : 0 ≤ B) : ∃ left : Int, 0 ≤ left ∧ (giveF s B).length = 8 ∧ left + sumC (giveF s B) = B ∧ ∀ b, b < 8 → (0 ≤ (giveF s B).getD b 0 ∧ (giveF s B).getD b 0 ≤ 12) ∧ noMore ((giveF s B).getD b 0) left = true := by
  obtain ⟨-, h, hn⟩ := giveRun_fuel 200 _ (GI.init s hB) (by rw [giveMu_init]; omega)
  refine ⟨(giveRun 200 (pushQ s 8, z8, B)).2.2, h.b0, h.klen, h.sum, fun b hb => ⟨h.kr b hb, h.out b hb fun w hw => ?_⟩⟩
  rw [hn] at hw; cases hw

/-! ### As the document has it -/

structure RI (B : Int) (x : List Int × Int) : Prop where
  klen : x.1.length = 8
  kr : ∀ b, b < 8 → 0 ≤ x.1.getD b 0 ∧ x.1.getD b 0 ≤ 12
  b0 : 0 ≤ x.2
  b1 : x.2 ≤ B

def feas (k : List Int) (bits : Int) (b : Nat) : Prop := k.getD b 0 < 12 ∧ moreF (k.getD b 0) ≤ bits

theorem feas_iff {k : List Int} {bits : Int} {b : Nat} : feas k bits b ↔ noMore (k.getD b 0) bits = false := by
  unfold feas noMore
  simp only [Bool.or_eq_false_iff, decide_eq_false_iff_not]; omega

theorem best_cases (s k : List Int) (bits : Int) : ∀ n, (bestTo s k bits n = -1 ∧ ∀ b, b < n → ¬ feas k bits b) ∨ ∃ c : Nat, c < n ∧ bestTo s k bits n = (c : Int) ∧ feas k bits c
  | 0 => .inl ⟨rfl, fun b h => by omega⟩
  | n + 1 => by
    rw [bestTo]
    split
    · rename_i h
      exact .inr ⟨n, by omega, rfl, h.1, h.2.1⟩
    · rename_i h
      rcases best_cases s k bits n with ⟨h1, h2⟩ | ⟨c, h1, h2, h3⟩
      · refine .inl ⟨h1, fun b hb hf => ?_⟩
        by_cases hbn : b = n
        · subst hbn; exact h ⟨hf.1, hf.2, .inl (by omega)⟩
        · exact h2 b (by omega) hf
      · exact .inr ⟨c, by omega, h2, h3⟩

theorem best_is (s k : List Int) (bits : Int) {b : Nat} (hf : feas k bits b) : ∀ n, b < n → (∀ c, c < n → feas k bits c → s.getD c 0 - k.getD c 0 ≤ s.getD b 0 - k.getD b 0 ∧ (c < b → s.getD c 0 - k.getD c 0 < s.getD b 0 - k.getD b 0)) → bestTo s k bits n = (b : Int)
  | 0, h, _ => by omega
  | n + 1, h, hm => by
    rw [bestTo]
    by_cases e : b = n
    · subst e
      rw [if_pos]
      refine ⟨hf.1, hf.2, ?_⟩
      rcases best_cases s k bits b with ⟨h1, _⟩ | ⟨c, h1, h2, h3⟩
      · left; omega
      · right
        rw [h2, Int.toNat_natCast]
        exact (hm c (by omega) h3).2 h1
    · have ih := best_is s k bits hf n (by omega) (fun c hc => hm c (by omega))
      rw [ih, if_neg]
      rintro ⟨h1, h2, h3 | h3⟩
      · omega
      · have := (hm n (by omega) ⟨h1, h2⟩).1
        rw [Int.toNat_natCast] at h3; omega

theorem refRun_stop {s : List Int} {f : Nat} {x : List Int × Int} (h : bestTo s x.1 x.2 8 < 0) : refRun s f x = x.1 := by
  cases f with
  | zero => rfl
  | succ f => rw [refRun, if_pos h]

theorem give_ref {s : List Int} {B : Int} : ∀ (g : Nat) (x : GS) (f : Nat), GI s B x → giveMu x ≤ g → 96 - sumK x.2.1 < f → refRun s f x.2 = (giveRun g x).2.1 := by
  intro g
  induction g with
  | zero =>
    intro x f h hg hf
    have hx : x.1 = [] := List.eq_nil_of_length_eq_zero (by unfold giveMu at hg; omega)
    refine refRun_stop ?_
    rcases best_cases s x.2.1 x.2.2 8 with ⟨h1, _⟩ | ⟨c, h1, _, h3⟩
    · omega
    · have := h.out c h1 (fun w hw => by rw [hx] at hw; cases hw)
      rw [feas_iff.1 h3] at this; cases this
  | succ g ih =>
    intro x f h hg hf
    by_cases h0 : 0 < x.1.length
    · obtain ⟨h1, h2⟩ := h.step h0
      obtain ⟨b, hb, e, hmin, -⟩ := h.top h0
      have hsl := sumK_le x.2.1 (fun c hc => (h.kr c (by rw [← h.klen]; exact hc)).2)
      rw [h.klen] at hsl
      rw [giveRun_step h0]
      cases hn : noMore (x.2.1.getD b 0) x.2.2 with
      | true =>
        have e2 : giveStep x = (popL ltQ qz x.1, x.2.1, x.2.2) := by
          unfold giveStep; simp only [e, Int.toNat_natCast, hn, if_true]
        have := ih (giveStep x) f h1 (by omega) (by rw [e2]; exact hf)
        rw [← this, e2]
      | false =>
        have e2 : giveStep x = (pushL ltQ qz (popL ltQ qz x.1) ((b : Int), s.getD b 0 - x.2.1.getD b 0 - 1), x.2.1.set b (x.2.1.getD b 0 + 1), x.2.2 - moreF (x.2.1.getD b 0)) := by
          unfold giveStep; simp only [e, Int.toNat_natCast, hn]; rfl
        have hbest : bestTo s x.2.1 x.2.2 8 = (b : Int) := by
          refine best_is s x.2.1 x.2.2 (feas_iff.2 hn) 8 hb fun c hc hcf => ?_
          have hin : ∃ w ∈ x.1, w.1 = (c : Int) := by
            refine Classical.byContradiction fun hno => ?_
            have := h.out c hc (fun w hw hwc => hno ⟨w, hw, hwc⟩)
            rw [feas_iff.1 hcf] at this; cases this
          obtain ⟨w, hw, hwc⟩ := hin
          obtain ⟨d, hd, rfl⟩ := h.mem w hw
          simp only at hwc
          have : d = c := by omega
          subst this
          have := hmin _ hw
          rw [e] at this
          simp only [ltQ, Bool.or_eq_false_iff, Bool.and_eq_false_iff, decide_eq_false_iff_not] at this
          omega
        obtain ⟨f, rfl⟩ : ∃ f', f = f' + 1 := ⟨f - 1, by omega⟩
        rw [refRun, hbest, if_neg (by omega)]
        simp only [Int.toNat_natCast]
        have := ih (giveStep x) f h1 (by omega) (by
          rw [e2]; simp only [sumK_set _ _ _ (show b < x.2.1.length by rw [h.klen]; exact hb)]; omega)
        rw [← this, e2]
    · have hx : x.1 = [] := List.eq_nil_of_length_eq_zero (by omega)
      rw [giveRun_nil _ x hx]
      refine refRun_stop ?_
      rcases best_cases s x.2.1 x.2.2 8 with ⟨h1, _⟩ | ⟨c, h1, _, h3⟩
      · omega
      · have := h.out c h1 (fun w hw => by rw [hx] at hw; cases hw)
        rw [feas_iff.1 h3] at this; cases this

theorem give_eq (s : List Int) {B : Int} (hB : 0 ≤ B) : giveF s B = refF s B :=
  (give_ref 200 _ 100 (GI.init s hB) (by rw [giveMu_init]; omega) (by show 96 - sumK z8 < ((100 : Nat) : Int); decide)).symm

end Go.SL.S

/- Functions and what they are held to do: bound to their code. -/
namespace Go.SL.A
open Go Go.SL Go.SL.S
set_option maxRecDepth 100000
noncomputable def C57 : Ctx := ⟨Go.Proofs.Tryd.prog, D, G61, meth18, fun _ => []⟩
def ann57 (s : List Int) (bits : Int) : Nat → St → Option Ann := fun id _ => match id with | 0 => some ⟨Nat, [1, 4, 5, 6, 7, 8, 28], [1, 2, 3], fun i => [(29, .v (.int .i64) (i : Int))], fun i => [(4, some ⟨false, true, (.cons (.ref .slice) (.last (.ref .func))), [(.slice 5 (.cons (.int .i64) (.last (.int .i64))) [] 0 i, .func (.func 105) [] [])]⟩), (5, some ⟨false, false, (.cons (.int .i64) (.last (.int .i64))), pushQ s i⟩)], fun i => i ≤ 8, fun i => 8 - i⟩ | _ => some ⟨GS, [4, 5, 6, 7, 8], [1, 3], fun x => [(1, .v (.int .i64) x.2.2)], fun x => [(2, some ⟨false, true, .arr 8 (.int .i64), [x.2.1]⟩), (4, some ⟨false, true, (.cons (.ref .slice) (.last (.ref .func))), [(.slice 6 (.cons (.int .i64) (.last (.int .i64))) [] 0 x.1.length, .func (.func 105) [] [])]⟩), (6, some ⟨false, false, (.cons (.int .i64) (.last (.int .i64))), x.1⟩)], fun x => GI s bits x ∧ giveRun (giveMu x) x = giveRun 200 (pushQ s 8, z8, bits), fun x => giveMu x⟩
def out57 (s : List Int) (bits : Int) : COut := ⟨[], .tup [⟨.arr 8 (.int .i64), giveV s bits⟩, ⟨.int .i64, giveE s bits⟩], [], []⟩
def sp57 : Spec := fun args ins => match args, ins with
  | [⟨.arr 8 (.int .i64), s⟩, ⟨.int .i64, bits⟩], [] => some (out57 s bits)
  | _, _ => none
def G57 := addG G61 80 sp57
def P57 (s : List Int) (bits : Int) : Prop :=
  ∀ (b : Bool), (!rightF s) = b → ∀ (b_1 : Bool), (bif b then true else decide (bits < (0 : Int))) = b_1 → (((!b) = true → (!b) = true) ∧ (b = false → (!b) = true) ∧ ((!b_1) = true → (!b_1) = true) ∧ (b_1 = false → (!b_1) =
  true)) ∧ bif bif b_1 then true else decide ((1048576 : Int) < bits) then (0 : Int) :: List.replicate (nat_lit 7) (0 : Int) = giveV s bits ∧ (1 : Int) = giveE s bits else ∃ (x : Nat), ((bits = bits ∧ (0 : Nat) = (0 : Nat)
  ∧ (0 : Int) = (0 : Int) ∧ (0 : Nat) = (0 : Nat) ∧ (0 : Nat) = (0 : Nat) ∧ (0 : Nat) = (0 : Nat) ∧ s = s ∧ (0 : Int) = (↑x : Int) ∧ (0 : Int) :: List.replicate (nat_lit 7) (0 : Int) = List.replicate (8 : Nat) (0 : Int) ∧
  false = false ∧ (0 : Int) :: List.replicate (nat_lit 7) (0 : Int) = List.replicate (8 : Nat) (0 : Int) ∧ false = false ∧ costF = costF ∧ false = false ∧ x = (0 : Nat) ∧ false = false ∧ pushQ s x = []) ∧ x ≤ (8 : Nat)) ∧ ∀
  (x : Nat), x ≤ (8 : Nat) → (IntKind.min IntKind.i64 ≤ (↑x : Int) ∧ (↑x : Int) ≤ IntKind.max IntKind.i64 ∧ (∀ (y : Ref × Ref), List.Mem y [(Ref.slice (5 : Nat) (Ty.cons (Ty.int IntKind.i64) (Ty.last (Ty.int IntKind.i64)))
  [] (0 : Nat) x, Ref.func (Fn.func (105 : Nat)) [] [])] → True) ∧ ∀ (y : Int × Int), List.Mem y (pushQ s x) → IntKind.min IntKind.i64 ≤ Prod.fst y ∧ Prod.fst y ≤ IntKind.max IntKind.i64 ∧ IntKind.min IntKind.i64 ≤ Prod.snd
  y ∧ Prod.snd y ≤ IntKind.max IntKind.i64) → bif decide ((↑x : Int) < (8 : Int)) then ((0 : Int) ≤ (↑x : Int) ∧ (↑x : Int) < (↑(8 : Nat) : Int)) ∧ (x = List.length (pushQ s x) ∧ x ≤ (1000 : Nat)) ∧ ∃ (y : Nat), (bits =
  bits ∧ (0 : Nat) = (0 : Nat) ∧ (0 : Int) = (0 : Int) ∧ (0 : Nat) = (0 : Nat) ∧ (0 : Nat) = (0 : Nat) ∧ (0 : Nat) = (0 : Nat) ∧ s = s ∧ IntKind.wrap IntKind.i64 ((↑x : Int) + (1 : Int)) = (↑y : Int) ∧ (0 : Int) ::
  List.replicate (nat_lit 7) (0 : Int) = List.replicate (8 : Nat) (0 : Int) ∧ false = false ∧ (0 : Int) :: List.replicate (nat_lit 7) (0 : Int) = List.replicate (8 : Nat) (0 : Int) ∧ false = false ∧ costF = costF ∧ false =
  false ∧ (0 : Nat) = (0 : Nat) ∧ x + (1 : Nat) = y ∧ false = false ∧ pushL ltQ qz (pushQ s x) ((↑x : Int), List.getD s (Int.toNat (↑x : Int)) (0 : Int)) = pushQ s y ∧ false = false) ∧ y ≤ (8 : Nat) ∧ (8 : Nat) - y < (8 :
  Nat) - x else ∃ (x_1 : List (Int × Int) × List Int × Int), ((bits = Prod.snd (Prod.snd x_1) ∧ (0 : Nat) = (0 : Nat) ∧ (0 : Int) = (0 : Int) ∧ (0 : Nat) = (0 : Nat) ∧ (0 : Nat) = (0 : Nat) ∧ (0 : Nat) = (0 : Nat) ∧ (0 :
  Int) :: List.replicate (nat_lit 7) (0 : Int) = List.replicate (8 : Nat) (0 : Int) ∧ false = false ∧ (0 : Int) :: List.replicate (nat_lit 7) (0 : Int) = Prod.fst (Prod.snd x_1) ∧ false = false ∧ costF = costF ∧ false =
  false ∧ (0 : Nat) = (0 : Nat) ∧ x = List.length (Prod.fst x_1) ∧ false = false ∧ pushQ s x = Prod.fst x_1 ∧ false = false) ∧ GI s bits x_1 ∧ giveRun (giveMu x_1) x_1 = giveRun (200 : Nat) (pushQ s (8 : Nat), z8, bits)) ∧
  ∀ (x : List (Int × Int) × List Int × Int), GI s bits x ∧ giveRun (giveMu x) x = giveRun (200 : Nat) (pushQ s (8 : Nat), z8, bits) → (IntKind.min IntKind.i64 ≤ Prod.snd (Prod.snd x) ∧ Prod.snd (Prod.snd x) ≤ IntKind.max
  IntKind.i64 ∧ (∀ (y : List Int), List.Mem y [Prod.fst (Prod.snd x)] → List.length y = (8 : Nat) ∧ ∀ (y_1 : Int), List.Mem y_1 y → IntKind.min IntKind.i64 ≤ y_1 ∧ y_1 ≤ IntKind.max IntKind.i64) ∧ (∀ (y : Ref × Ref),
  List.Mem y [(Ref.slice (6 : Nat) (Ty.cons (Ty.int IntKind.i64) (Ty.last (Ty.int IntKind.i64))) [] (0 : Nat) (List.length (Prod.fst x)), Ref.func (Fn.func (105 : Nat)) [] [])] → True) ∧ ∀ (y : Int × Int), List.Mem y
  (Prod.fst x) → IntKind.min IntKind.i64 ≤ Prod.fst y ∧ Prod.fst y ≤ IntKind.max IntKind.i64 ∧ IntKind.min IntKind.i64 ≤ Prod.snd y ∧ Prod.snd y ≤ IntKind.max IntKind.i64) → bif decide ((0 : Int) < (↑(List.length (Prod.fst
  x)) : Int)) then (List.length (Prod.fst x) = List.length (Prod.fst x) ∧ (0 : Nat) < List.length (Prod.fst x) ∧ List.length (Prod.fst x) ≤ (1000 : Nat)) ∧ (((0 : Int) ≤ Prod.fst (List.getD (Prod.fst x) (0 : Nat) qz) ∧
  Prod.fst (List.getD (Prod.fst x) (0 : Nat) qz) < (↑(8 : Nat) : Int)) ∧ Int.toNat (Prod.fst (List.getD (Prod.fst x) (0 : Nat) qz)) < (8 : Nat)) ∧ ∀ (b : Bool), decide ((12 : Int) ≤ List.getD (Prod.fst (Prod.snd x))
  (Int.toNat (Prod.fst (List.getD (Prod.fst x) (0 : Nat) qz))) (0 : Int)) = b → (((!b) = true → (!b) = true) ∧ ((!b) = true → (!b) = true ∧ (0 : Int) ≤ IntKind.wrap IntKind.i64 (List.getD (Prod.fst (Prod.snd x)) (Int.toNat
  (Prod.fst (List.getD (Prod.fst x) (0 : Nat) qz))) (0 : Int) + (1 : Int)) ∧ IntKind.wrap IntKind.i64 (List.getD (Prod.fst (Prod.snd x)) (Int.toNat (Prod.fst (List.getD (Prod.fst x) (0 : Nat) qz))) (0 : Int) + (1 : Int)) <
  (↑(13 : Nat) : Int)) ∧ ((!b) = true → (!b) = true ∧ Int.toNat (IntKind.wrap IntKind.i64 (List.getD (Prod.fst (Prod.snd x)) (Int.toNat (Prod.fst (List.getD (Prod.fst x) (0 : Nat) qz))) (0 : Int) + (1 : Int))) < (13 : Nat))
  ∧ ((!b) = true → (!b) = true ∧ (0 : Int) ≤ List.getD (Prod.fst (Prod.snd x)) (Int.toNat (Prod.fst (List.getD (Prod.fst x) (0 : Nat) qz))) (0 : Int) ∧ List.getD (Prod.fst (Prod.snd x)) (Int.toNat (Prod.fst (List.getD
  (Prod.fst x) (0 : Nat) qz))) (0 : Int) < (↑(13 : Nat) : Int)) ∧ ((!b) = true → (!b) = true ∧ Int.toNat (List.getD (Prod.fst (Prod.snd x)) (Int.toNat (Prod.fst (List.getD (Prod.fst x) (0 : Nat) qz))) (0 : Int)) < (13 :
  Nat)) ∧ ((!b) = true → (!b) = true ∧ (!b) = true) ∧ ((!b) = true → (!b) = true ∧ (!b) = true) ∧ (b = false → (!b) = true)) ∧ bif bif b then true else decide (Prod.snd (Prod.snd x) < IntKind.wrap IntKind.i64 (List.getD
  costF (Int.toNat (IntKind.wrap IntKind.i64 (List.getD (Prod.fst (Prod.snd x)) (Int.toNat (Prod.fst (List.getD (Prod.fst x) (0 : Nat) qz))) (0 : Int) + (1 : Int)))) (0 : Int) - List.getD costF (Int.toNat (List.getD
  (Prod.fst (Prod.snd x)) (Int.toNat (Prod.fst (List.getD (Prod.fst x) (0 : Nat) qz))) (0 : Int))) (0 : Int))) then ∃ (y : List (Int × Int) × List Int × Int), (Prod.snd (Prod.snd x) = Prod.snd (Prod.snd y) ∧ (0 : Nat) = (0
  : Nat) ∧ (0 : Int) = (0 : Int) ∧ (0 : Nat) = (0 : Nat) ∧ (0 : Nat) = (0 : Nat) ∧ (0 : Nat) = (0 : Nat) ∧ (0 : Int) :: List.replicate (nat_lit 7) (0 : Int) = List.replicate (8 : Nat) (0 : Int) ∧ false = false ∧ Prod.fst
  (Prod.snd x) = Prod.fst (Prod.snd y) ∧ false = false ∧ costF = costF ∧ false = false ∧ (0 : Nat) = (0 : Nat) ∧ List.length (Prod.fst x) - (1 : Nat) = List.length (Prod.fst y) ∧ false = false ∧ popL ltQ qz (Prod.fst x) =
  Prod.fst y ∧ false = false) ∧ (GI s bits y ∧ giveRun (giveMu y) y = giveRun (200 : Nat) (pushQ s (8 : Nat), z8, bits)) ∧ giveMu y < giveMu x else (((0 : Int) ≤ IntKind.wrap IntKind.i64 (List.getD (Prod.fst (Prod.snd x))
  (Int.toNat (Prod.fst (List.getD (Prod.fst x) (0 : Nat) qz))) (0 : Int) + (1 : Int)) ∧ IntKind.wrap IntKind.i64 (List.getD (Prod.fst (Prod.snd x)) (Int.toNat (Prod.fst (List.getD (Prod.fst x) (0 : Nat) qz))) (0 : Int) + (1
  : Int)) < (↑(13 : Nat) : Int)) ∧ Int.toNat (IntKind.wrap IntKind.i64 (List.getD (Prod.fst (Prod.snd x)) (Int.toNat (Prod.fst (List.getD (Prod.fst x) (0 : Nat) qz))) (0 : Int) + (1 : Int))) < (13 : Nat) ∧ ((0 : Int) ≤
  List.getD (Prod.fst (Prod.snd x)) (Int.toNat (Prod.fst (List.getD (Prod.fst x) (0 : Nat) qz))) (0 : Int) ∧ List.getD (Prod.fst (Prod.snd x)) (Int.toNat (Prod.fst (List.getD (Prod.fst x) (0 : Nat) qz))) (0 : Int) < (↑(13 :
  Nat) : Int)) ∧ Int.toNat (List.getD (Prod.fst (Prod.snd x)) (Int.toNat (Prod.fst (List.getD (Prod.fst x) (0 : Nat) qz))) (0 : Int)) < (13 : Nat)) ∧ (((0 : Int) ≤ Prod.fst (List.getD (Prod.fst x) (0 : Nat) qz) ∧ Prod.fst
  (List.getD (Prod.fst x) (0 : Nat) qz) < (↑(8 : Nat) : Int)) ∧ Int.toNat (Prod.fst (List.getD (Prod.fst x) (0 : Nat) qz)) < (8 : Nat) ∧ ((0 : Int) ≤ Prod.fst (List.getD (Prod.fst x) (0 : Nat) qz) ∧ Prod.fst (List.getD
  (Prod.fst x) (0 : Nat) qz) < (↑(8 : Nat) : Int)) ∧ Int.toNat (Prod.fst (List.getD (Prod.fst x) (0 : Nat) qz)) < (8 : Nat)) ∧ (List.length (Prod.fst x) - (1 : Nat) = List.length (popL ltQ qz (Prod.fst x)) ∧ List.length
  (Prod.fst x) - (1 : Nat) ≤ (1000 : Nat)) ∧ ∃ (y : List (Int × Int) × List Int × Int), (IntKind.wrap IntKind.i64 (Prod.snd (Prod.snd x) - IntKind.wrap IntKind.i64 (List.getD costF (Int.toNat (IntKind.wrap IntKind.i64
  (List.getD (Prod.fst (Prod.snd x)) (Int.toNat (Prod.fst (List.getD (Prod.fst x) (0 : Nat) qz))) (0 : Int) + (1 : Int)))) (0 : Int) - List.getD costF (Int.toNat (List.getD (Prod.fst (Prod.snd x)) (Int.toNat (Prod.fst
  (List.getD (Prod.fst x) (0 : Nat) qz))) (0 : Int))) (0 : Int))) = Prod.snd (Prod.snd y) ∧ (0 : Nat) = (0 : Nat) ∧ (0 : Int) = (0 : Int) ∧ (0 : Nat) = (0 : Nat) ∧ (0 : Nat) = (0 : Nat) ∧ (0 : Nat) = (0 : Nat) ∧ (0 : Int)
  :: List.replicate (nat_lit 7) (0 : Int) = List.replicate (8 : Nat) (0 : Int) ∧ false = false ∧ List.set (Prod.fst (Prod.snd x)) (Int.toNat (Prod.fst (List.getD (Prod.fst x) (0 : Nat) qz))) (IntKind.wrap IntKind.i64
  (List.getD (Prod.fst (Prod.snd x)) (Int.toNat (Prod.fst (List.getD (Prod.fst x) (0 : Nat) qz))) (0 : Int) + (1 : Int))) = Prod.fst (Prod.snd y) ∧ false = false ∧ costF = costF ∧ false = false ∧ (0 : Nat) = (0 : Nat) ∧
  List.length (Prod.fst x) - (1 : Nat) + (1 : Nat) = List.length (Prod.fst y) ∧ false = false ∧ pushL ltQ qz (popL ltQ qz (Prod.fst x)) (Prod.fst (List.getD (Prod.fst x) (0 : Nat) qz), IntKind.wrap IntKind.i64 (Prod.snd
  (List.getD (Prod.fst x) (0 : Nat) qz) - (1 : Int))) = Prod.fst y ∧ false = false) ∧ (GI s bits y ∧ giveRun (giveMu y) y = giveRun (200 : Nat) (pushQ s (8 : Nat), z8, bits)) ∧ giveMu y < giveMu x else Prod.fst (Prod.snd x)
  = giveV s bits ∧ (0 : Int) = giveE s bits
theorem vc57 (s : List Int) (bits : Int) : P57 s bits = vcFun C57 (ann57 s bits) Go.Proofs.Tryd.f80 [⟨.arr 8 (.int .i64), s⟩, ⟨.int .i64, bits⟩] [] (out57 s bits) := by kernel_rfl

noncomputable def C62 : Ctx := ⟨Go.Proofs.Tryd.prog, D, G57, meth18, fun _ => []⟩
def ann62 (s : List Int) (bits : Int) : Nat → St → Option Ann := fun id S => match id with | 0 => some ⟨Nat, [1, 2, 4, 5], [0, 1], fun i => [(6, .v (.int .i64) (i : Int))], fun i => [(2, some ⟨false, true, .arr 13 (.int .i64), [costF.take i ++ (List.replicate 13 0).drop i]⟩)], fun i => i ≤ 13, fun i => 13 - i⟩ | 2 => some ⟨Nat × List Int × Int, [2, 4, 5, 7], [0, 1, 2], fun x => [(1, .v (.int .i64) x.2.2)], fun x => [(3, some ⟨false, true, .arr 8 (.int .i64), [x.2.1]⟩)], fun x => RI bits x.2 ∧ x.1 ≤ 100 ∧ 96 - sumK x.2.1 < x.1 ∧ refRun s x.1 x.2 = refF s bits, fun x => x.1⟩ | _ => some ⟨Nat, [1, 2, 4, 5, 7], [0, 1, 2, 3], fun b => [(9, .v (.int .i64) (b : Int)), (8, .v (.int .i64) (bestTo s (S.x 3 (.arr 8 (.int .i64))) (S.i 1) b))], fun _ => [], fun b => b ≤ 8, fun b => 8 - b⟩
def out62 (s : List Int) (bits : Int) : COut := ⟨[rightF s = true, 0 ≤ bits ∧ bits ≤ 1048576], .v (.arr 8 (.int .i64)) (refF s bits), [], []⟩
def sp62 : Spec := fun args ins => match args, ins with
  | [⟨.arr 8 (.int .i64), s⟩, ⟨.int .i64, bits⟩], [] => some (out62 s bits)
  | _, _ => none
def G62 := addG G57 63 sp62
def P62 (s : List Int) (bits : Int) : Prop :=
  ∃ (x : Nat), ((bits = bits ∧ (0 : Nat) = (0 : Nat) ∧ (0 : Nat) = (0 : Nat) ∧ (0 : Nat) = (0 : Nat) ∧ (0 : Int) = (↑x : Int) ∧ s = s ∧ false = false ∧ (0 : Int) :: List.replicate (nat_lit 7) (0 : Int) = List.replicate (8 :
  Nat) (0 : Int) ∧ false = false ∧ (0 : Int) :: List.replicate (nat_lit 12) (0 : Int) = List.take x costF ++ List.drop x (List.replicate (13 : Nat) (0 : Int)) ∧ false = false) ∧ x ≤ (13 : Nat)) ∧ ∀ (x : Nat), x ≤ (13 : Nat)
  → (IntKind.min IntKind.i64 ≤ (↑x : Int) ∧ (↑x : Int) ≤ IntKind.max IntKind.i64 ∧ ∀ (y : List Int), List.Mem y [List.take x costF ++ List.drop x (List.replicate (13 : Nat) (0 : Int))] → List.length y = (13 : Nat) ∧ ∀ (y_1
  : Int), List.Mem y_1 y → IntKind.min IntKind.i64 ≤ y_1 ∧ y_1 ≤ IntKind.max IntKind.i64) → bif decide ((↑x : Int) < (13 : Int)) then (((0 : Int) ≤ (↑x : Int) ∧ (↑x : Int) ≤ (12 : Int)) ∧ ((0 : Int) ≤ (↑x : Int) ∧ (↑x :
  Int) < (↑(13 : Nat) : Int)) ∧ Int.toNat (↑x : Int) < (13 : Nat)) ∧ ∃ (y : Nat), (bits = bits ∧ (0 : Nat) = (0 : Nat) ∧ (0 : Nat) = (0 : Nat) ∧ (0 : Nat) = (0 : Nat) ∧ IntKind.wrap IntKind.i64 ((↑x : Int) + (1 : Int)) =
  (↑y : Int) ∧ s = s ∧ false = false ∧ (0 : Int) :: List.replicate (nat_lit 7) (0 : Int) = List.replicate (8 : Nat) (0 : Int) ∧ false = false ∧ List.set (List.take x costF ++ List.drop x (List.replicate (13 : Nat) (0 :
  Int))) (Int.toNat (↑x : Int)) (bitsF (↑x : Int)) = List.take y costF ++ List.drop y (List.replicate (13 : Nat) (0 : Int)) ∧ false = false) ∧ y ≤ (13 : Nat) ∧ (13 : Nat) - y < (13 : Nat) - x else ∃ (x_1 : Nat × List Int ×
  Int), ((bits = Prod.snd (Prod.snd x_1) ∧ (0 : Nat) = (0 : Nat) ∧ (0 : Nat) = (0 : Nat) ∧ (0 : Nat) = (0 : Nat) ∧ (0 : Nat) = (0 : Nat) ∧ s = s ∧ false = false ∧ (0 : Int) :: List.replicate (nat_lit 7) (0 : Int) =
  List.replicate (8 : Nat) (0 : Int) ∧ false = false ∧ List.append (List.take x costF) (List.drop x (List.replicate (13 : Nat) (0 : Int))) = List.take x costF ++ List.drop x (List.replicate (13 : Nat) (0 : Int)) ∧ false =
  false ∧ (0 : Int) :: List.replicate (nat_lit 7) (0 : Int) = Prod.fst (Prod.snd x_1) ∧ false = false) ∧ RI bits (Prod.snd x_1) ∧ Prod.fst x_1 ≤ (100 : Nat) ∧ (96 : Int) - sumK (Prod.fst (Prod.snd x_1)) < (↑(Prod.fst x_1) :
  Int) ∧ refRun s (Prod.fst x_1) (Prod.snd x_1) = refF s bits) ∧ ∀ (x_2 : Nat × List Int × Int), RI bits (Prod.snd x_2) ∧ Prod.fst x_2 ≤ (100 : Nat) ∧ (96 : Int) - sumK (Prod.fst (Prod.snd x_2)) < (↑(Prod.fst x_2) : Int) ∧
  refRun s (Prod.fst x_2) (Prod.snd x_2) = refF s bits → (IntKind.min IntKind.i64 ≤ Prod.snd (Prod.snd x_2) ∧ Prod.snd (Prod.snd x_2) ≤ IntKind.max IntKind.i64 ∧ ∀ (y : List Int), List.Mem y [Prod.fst (Prod.snd x_2)] →
  List.length y = (8 : Nat) ∧ ∀ (y_1 : Int), List.Mem y_1 y → IntKind.min IntKind.i64 ≤ y_1 ∧ y_1 ≤ IntKind.max IntKind.i64) → ∃ (x_3 : Nat), ((Prod.snd (Prod.snd x_2) = Prod.snd (Prod.snd x_2) ∧ (0 : Nat) = (0 : Nat) ∧ (0
  : Nat) = (0 : Nat) ∧ (0 : Nat) = (0 : Nat) ∧ (0 : Nat) = (0 : Nat) ∧ (-1 : Int) = bestTo s (Prod.fst (Prod.snd x_2)) (Prod.snd (Prod.snd x_2)) x_3 ∧ (0 : Int) = (↑x_3 : Int) ∧ s = s ∧ false = false ∧ (0 : Int) ::
  List.replicate (nat_lit 7) (0 : Int) = List.replicate (8 : Nat) (0 : Int) ∧ false = false ∧ List.append (List.take x costF) (List.drop x (List.replicate (13 : Nat) (0 : Int))) = List.take x costF ++ List.drop x
  (List.replicate (13 : Nat) (0 : Int)) ∧ false = false ∧ Prod.fst (Prod.snd x_2) = Prod.fst (Prod.snd x_2) ∧ false = false) ∧ x_3 ≤ (8 : Nat)) ∧ ∀ (x_4 : Nat), x_4 ≤ (8 : Nat) → IntKind.min IntKind.i64 ≤ (↑x_4 : Int) ∧
  (↑x_4 : Int) ≤ IntKind.max IntKind.i64 ∧ IntKind.min IntKind.i64 ≤ bestTo s (Prod.fst (Prod.snd x_2)) (Prod.snd (Prod.snd x_2)) x_4 ∧ bestTo s (Prod.fst (Prod.snd x_2)) (Prod.snd (Prod.snd x_2)) x_4 ≤ IntKind.max
  IntKind.i64 → bif decide ((↑x_4 : Int) < (8 : Int)) then ∀ (b : Bool), decide (List.getD (Prod.fst (Prod.snd x_2)) (Int.toNat (↑x_4 : Int)) (0 : Int) < (12 : Int)) = b → ∀ (b_1 : Bool), (bif b then decide (IntKind.wrap
  IntKind.i64 (List.getD (List.take x costF ++ List.drop x (List.replicate (13 : Nat) (0 : Int))) (Int.toNat (IntKind.wrap IntKind.i64 (List.getD (Prod.fst (Prod.snd x_2)) (Int.toNat (↑x_4 : Int)) (0 : Int) + (1 : Int))))
  (0 : Int) - List.getD (List.take x costF ++ List.drop x (List.replicate (13 : Nat) (0 : Int))) (Int.toNat (List.getD (Prod.fst (Prod.snd x_2)) (Int.toNat (↑x_4 : Int)) (0 : Int))) (0 : Int)) ≤ Prod.snd (Prod.snd x_2))
  else false) = b_1 → ∀ (b_2 : Bool), decide (bestTo s (Prod.fst (Prod.snd x_2)) (Prod.snd (Prod.snd x_2)) x_4 < (0 : Int)) = b_2 → (((0 : Int) ≤ (↑x_4 : Int) ∧ (↑x_4 : Int) < (↑(8 : Nat) : Int)) ∧ Int.toNat (↑x_4 : Int) <
  (8 : Nat) ∧ (b = true → b = true ∧ (0 : Int) ≤ (↑x_4 : Int) ∧ (↑x_4 : Int) < (↑(8 : Nat) : Int)) ∧ (b = true → b = true ∧ Int.toNat (↑x_4 : Int) < (8 : Nat)) ∧ (b = true → b = true) ∧ (b = true → b = true ∧ (0 : Int) ≤
  IntKind.wrap IntKind.i64 (List.getD (Prod.fst (Prod.snd x_2)) (Int.toNat (↑x_4 : Int)) (0 : Int) + (1 : Int)) ∧ IntKind.wrap IntKind.i64 (List.getD (Prod.fst (Prod.snd x_2)) (Int.toNat (↑x_4 : Int)) (0 : Int) + (1 : Int))
  < (↑(13 : Nat) : Int)) ∧ (b = true → b = true ∧ Int.toNat (IntKind.wrap IntKind.i64 (List.getD (Prod.fst (Prod.snd x_2)) (Int.toNat (↑x_4 : Int)) (0 : Int) + (1 : Int))) < (13 : Nat)) ∧ (b = true → b = true ∧ (0 : Int) ≤
  (↑x_4 : Int) ∧ (↑x_4 : Int) < (↑(8 : Nat) : Int)) ∧ (b = true → b = true ∧ Int.toNat (↑x_4 : Int) < (8 : Nat)) ∧ (b = true → b = true ∧ (0 : Int) ≤ List.getD (Prod.fst (Prod.snd x_2)) (Int.toNat (↑x_4 : Int)) (0 : Int) ∧
  List.getD (Prod.fst (Prod.snd x_2)) (Int.toNat (↑x_4 : Int)) (0 : Int) < (↑(13 : Nat) : Int)) ∧ (b = true → b = true ∧ Int.toNat (List.getD (Prod.fst (Prod.snd x_2)) (Int.toNat (↑x_4 : Int)) (0 : Int)) < (13 : Nat)) ∧ (b
  = true → b = true ∧ b = true) ∧ (b = true → b = true ∧ b = true) ∧ (b = true → b = true) ∧ (b_1 = true → b_1 = true) ∧ ((b_1 && b_1 && !b_2) = true → (b_1 && b_1 && !b_2) = true ∧ (0 : Int) ≤ (↑x_4 : Int) ∧ (↑x_4 : Int) <
  (↑(8 : Nat) : Int)) ∧ ((b_1 && b_1 && !b_2) = true → (b_1 && b_1 && !b_2) = true ∧ Int.toNat (↑x_4 : Int) < (8 : Nat)) ∧ ((b_1 && b_1 && !b_2) = true → (b_1 && b_1 && !b_2) = true ∧ (0 : Int) ≤ (↑x_4 : Int) ∧ (↑x_4 : Int)
  < (↑(8 : Nat) : Int)) ∧ ((b_1 && b_1 && !b_2) = true → (b_1 && b_1 && !b_2) = true ∧ Int.toNat (↑x_4 : Int) < (8 : Nat)) ∧ ((b_1 && b_1 && !b_2) = true → (b_1 && b_1 && !b_2) = true ∧ (b_1 && b_1 && !b_2) = true) ∧ ((b_1
  && b_1 && !b_2) = true → (b_1 && b_1 && !b_2) = true ∧ (0 : Int) ≤ bestTo s (Prod.fst (Prod.snd x_2)) (Prod.snd (Prod.snd x_2)) x_4 ∧ bestTo s (Prod.fst (Prod.snd x_2)) (Prod.snd (Prod.snd x_2)) x_4 < (↑(8 : Nat) : Int))
  ∧ ((b_1 && b_1 && !b_2) = true → (b_1 && b_1 && !b_2) = true ∧ Int.toNat (bestTo s (Prod.fst (Prod.snd x_2)) (Prod.snd (Prod.snd x_2)) x_4) < (8 : Nat)) ∧ ((b_1 && b_1 && !b_2) = true → (b_1 && b_1 && !b_2) = true ∧ (0 :
  Int) ≤ bestTo s (Prod.fst (Prod.snd x_2)) (Prod.snd (Prod.snd x_2)) x_4 ∧ bestTo s (Prod.fst (Prod.snd x_2)) (Prod.snd (Prod.snd x_2)) x_4 < (↑(8 : Nat) : Int)) ∧ ((b_1 && b_1 && !b_2) = true → (b_1 && b_1 && !b_2) = true
  ∧ Int.toNat (bestTo s (Prod.fst (Prod.snd x_2)) (Prod.snd (Prod.snd x_2)) x_4) < (8 : Nat)) ∧ ((b_1 && b_1 && !b_2) = true → (b_1 && b_1 && !b_2) = true ∧ (b_1 && b_1 && !b_2) = true) ∧ ((b_1 && b_1 && !b_2) = true → (b_1
  && b_1 && !b_2) = true ∧ (b_1 && b_1 && !b_2) = true) ∧ (b_1 = true → (b_1 && b_1) = true ∧ (b_2 = false → (b_1 && b_1 && !b_2) = true)) ∧ (b_1 = true → b_1 = true)) ∧ bif bif b_1 then bif b_2 then true else decide
  (IntKind.wrap IntKind.i64 (List.getD s (Int.toNat (bestTo s (Prod.fst (Prod.snd x_2)) (Prod.snd (Prod.snd x_2)) x_4)) (0 : Int) - List.getD (Prod.fst (Prod.snd x_2)) (Int.toNat (bestTo s (Prod.fst (Prod.snd x_2))
  (Prod.snd (Prod.snd x_2)) x_4)) (0 : Int)) < IntKind.wrap IntKind.i64 (List.getD s (Int.toNat (↑x_4 : Int)) (0 : Int) - List.getD (Prod.fst (Prod.snd x_2)) (Int.toNat (↑x_4 : Int)) (0 : Int))) else false then ∃ (y : Nat),
  (Prod.snd (Prod.snd x_2) = Prod.snd (Prod.snd x_2) ∧ (0 : Nat) = (0 : Nat) ∧ (0 : Nat) = (0 : Nat) ∧ (0 : Nat) = (0 : Nat) ∧ (0 : Nat) = (0 : Nat) ∧ (↑x_4 : Int) = bestTo s (Prod.fst (Prod.snd x_2)) (Prod.snd (Prod.snd
  x_2)) y ∧ IntKind.wrap IntKind.i64 ((↑x_4 : Int) + (1 : Int)) = (↑y : Int) ∧ s = s ∧ false = false ∧ (0 : Int) :: List.replicate (nat_lit 7) (0 : Int) = List.replicate (8 : Nat) (0 : Int) ∧ false = false ∧ List.append
  (List.take x costF) (List.drop x (List.replicate (13 : Nat) (0 : Int))) = List.take x costF ++ List.drop x (List.replicate (13 : Nat) (0 : Int)) ∧ false = false ∧ Prod.fst (Prod.snd x_2) = Prod.fst (Prod.snd x_2) ∧ false
  = false) ∧ y ≤ (8 : Nat) ∧ (8 : Nat) - y < (8 : Nat) - x_4 else ∃ (y : Nat), (Prod.snd (Prod.snd x_2) = Prod.snd (Prod.snd x_2) ∧ (0 : Nat) = (0 : Nat) ∧ (0 : Nat) = (0 : Nat) ∧ (0 : Nat) = (0 : Nat) ∧ (0 : Nat) = (0 :
  Nat) ∧ bestTo s (Prod.fst (Prod.snd x_2)) (Prod.snd (Prod.snd x_2)) x_4 = bestTo s (Prod.fst (Prod.snd x_2)) (Prod.snd (Prod.snd x_2)) y ∧ IntKind.wrap IntKind.i64 ((↑x_4 : Int) + (1 : Int)) = (↑y : Int) ∧ s = s ∧ false =
  false ∧ (0 : Int) :: List.replicate (nat_lit 7) (0 : Int) = List.replicate (8 : Nat) (0 : Int) ∧ false = false ∧ List.append (List.take x costF) (List.drop x (List.replicate (13 : Nat) (0 : Int))) = List.take x costF ++
  List.drop x (List.replicate (13 : Nat) (0 : Int)) ∧ false = false ∧ Prod.fst (Prod.snd x_2) = Prod.fst (Prod.snd x_2) ∧ false = false) ∧ y ≤ (8 : Nat) ∧ (8 : Nat) - y < (8 : Nat) - x_4 else bif decide (bestTo s (Prod.fst
  (Prod.snd x_2)) (Prod.snd (Prod.snd x_2)) x_4 < (0 : Int)) then Prod.fst (Prod.snd x_2) = refF s bits else (((0 : Int) ≤ bestTo s (Prod.fst (Prod.snd x_2)) (Prod.snd (Prod.snd x_2)) x_4 ∧ bestTo s (Prod.fst (Prod.snd
  x_2)) (Prod.snd (Prod.snd x_2)) x_4 < (↑(8 : Nat) : Int)) ∧ Int.toNat (bestTo s (Prod.fst (Prod.snd x_2)) (Prod.snd (Prod.snd x_2)) x_4) < (8 : Nat) ∧ ((0 : Int) ≤ IntKind.wrap IntKind.i64 (List.getD (Prod.fst (Prod.snd
  x_2)) (Int.toNat (bestTo s (Prod.fst (Prod.snd x_2)) (Prod.snd (Prod.snd x_2)) x_4)) (0 : Int) + (1 : Int)) ∧ IntKind.wrap IntKind.i64 (List.getD (Prod.fst (Prod.snd x_2)) (Int.toNat (bestTo s (Prod.fst (Prod.snd x_2))
  (Prod.snd (Prod.snd x_2)) x_4)) (0 : Int) + (1 : Int)) < (↑(13 : Nat) : Int)) ∧ Int.toNat (IntKind.wrap IntKind.i64 (List.getD (Prod.fst (Prod.snd x_2)) (Int.toNat (bestTo s (Prod.fst (Prod.snd x_2)) (Prod.snd (Prod.snd
  x_2)) x_4)) (0 : Int) + (1 : Int))) < (13 : Nat) ∧ ((0 : Int) ≤ bestTo s (Prod.fst (Prod.snd x_2)) (Prod.snd (Prod.snd x_2)) x_4 ∧ bestTo s (Prod.fst (Prod.snd x_2)) (Prod.snd (Prod.snd x_2)) x_4 < (↑(8 : Nat) : Int)) ∧
  Int.toNat (bestTo s (Prod.fst (Prod.snd x_2)) (Prod.snd (Prod.snd x_2)) x_4) < (8 : Nat) ∧ ((0 : Int) ≤ List.getD (Prod.fst (Prod.snd x_2)) (Int.toNat (bestTo s (Prod.fst (Prod.snd x_2)) (Prod.snd (Prod.snd x_2)) x_4)) (0
  : Int) ∧ List.getD (Prod.fst (Prod.snd x_2)) (Int.toNat (bestTo s (Prod.fst (Prod.snd x_2)) (Prod.snd (Prod.snd x_2)) x_4)) (0 : Int) < (↑(13 : Nat) : Int)) ∧ Int.toNat (List.getD (Prod.fst (Prod.snd x_2)) (Int.toNat
  (bestTo s (Prod.fst (Prod.snd x_2)) (Prod.snd (Prod.snd x_2)) x_4)) (0 : Int)) < (13 : Nat)) ∧ (((0 : Int) ≤ bestTo s (Prod.fst (Prod.snd x_2)) (Prod.snd (Prod.snd x_2)) x_4 ∧ bestTo s (Prod.fst (Prod.snd x_2)) (Prod.snd
  (Prod.snd x_2)) x_4 < (↑(8 : Nat) : Int)) ∧ Int.toNat (bestTo s (Prod.fst (Prod.snd x_2)) (Prod.snd (Prod.snd x_2)) x_4) < (8 : Nat) ∧ ((0 : Int) ≤ bestTo s (Prod.fst (Prod.snd x_2)) (Prod.snd (Prod.snd x_2)) x_4 ∧ bestTo
  s (Prod.fst (Prod.snd x_2)) (Prod.snd (Prod.snd x_2)) x_4 < (↑(8 : Nat) : Int)) ∧ Int.toNat (bestTo s (Prod.fst (Prod.snd x_2)) (Prod.snd (Prod.snd x_2)) x_4) < (8 : Nat)) ∧ ∃ (y : Nat × List Int × Int), (IntKind.wrap
  IntKind.i64 (IntKind.wrap IntKind.i64 (Prod.snd (Prod.snd x_2) - List.getD (List.take x costF ++ List.drop x (List.replicate (13 : Nat) (0 : Int))) (Int.toNat (IntKind.wrap IntKind.i64 (List.getD (Prod.fst (Prod.snd x_2))
  (Int.toNat (bestTo s (Prod.fst (Prod.snd x_2)) (Prod.snd (Prod.snd x_2)) x_4)) (0 : Int) + (1 : Int)))) (0 : Int)) + List.getD (List.take x costF ++ List.drop x (List.replicate (13 : Nat) (0 : Int))) (Int.toNat (List.getD
  (Prod.fst (Prod.snd x_2)) (Int.toNat (bestTo s (Prod.fst (Prod.snd x_2)) (Prod.snd (Prod.snd x_2)) x_4)) (0 : Int))) (0 : Int)) = Prod.snd (Prod.snd y) ∧ (0 : Nat) = (0 : Nat) ∧ (0 : Nat) = (0 : Nat) ∧ (0 : Nat) = (0 :
  Nat) ∧ (0 : Nat) = (0 : Nat) ∧ s = s ∧ false = false ∧ (0 : Int) :: List.replicate (nat_lit 7) (0 : Int) = List.replicate (8 : Nat) (0 : Int) ∧ false = false ∧ List.append (List.take x costF) (List.drop x (List.replicate
  (13 : Nat) (0 : Int))) = List.take x costF ++ List.drop x (List.replicate (13 : Nat) (0 : Int)) ∧ false = false ∧ List.set (Prod.fst (Prod.snd x_2)) (Int.toNat (bestTo s (Prod.fst (Prod.snd x_2)) (Prod.snd (Prod.snd x_2))
  x_4)) (IntKind.wrap IntKind.i64 (List.getD (Prod.fst (Prod.snd x_2)) (Int.toNat (bestTo s (Prod.fst (Prod.snd x_2)) (Prod.snd (Prod.snd x_2)) x_4)) (0 : Int) + (1 : Int))) = Prod.fst (Prod.snd y) ∧ false = false) ∧ (RI
  bits (Prod.snd y) ∧ Prod.fst y ≤ (100 : Nat) ∧ (96 : Int) - sumK (Prod.fst (Prod.snd y)) < (↑(Prod.fst y) : Int) ∧ refRun s (Prod.fst y) (Prod.snd y) = refF s bits) ∧ Prod.fst y < Prod.fst x_2
theorem vc62 (s : List Int) (bits : Int) : P62 s bits = vcFun C62 (ann62 s bits) Go.Proofs.Tryd.f63 [⟨.arr 8 (.int .i64), s⟩, ⟨.int .i64, bits⟩] [] (out62 s bits) := by kernel_rfl

end Go.SL.A

/- Give: how many pulses each band has, by the program and by the document. -/
namespace Go.SL.A
open Go Go.SL Go.SL.S

theorem hw57 {s : List Int} {bits : Int} (hw : Go.SL.allP (List.flatMap (fun a : AV => a.t.wf a.x) [⟨.arr 8 (.int .i64), s⟩, ⟨.int .i64, bits⟩] ++ List.flatMap Blk.wf [])) : s.length = 8 := by
  simp only [List.flatMap_cons, List.flatMap_nil, Ty.wf, List.append_nil, List.cons_append, List.nil_append, Go.SL.allP] at hw
  exact hw.1

theorem right_at {s : List Int} (h : rightF s = true) (b : Nat) : 0 ≤ s.getD b 0 ∧ s.getD b 0 ≤ 15 := by
  by_cases hb : b < s.length
  · unfold rightF at h
    simp only [Bool.not_eq_true', List.any_eq_false] at h
    have := h _ (getD_mem (d := 0) hb)
    unfold badF at this
    simp only [Bool.or_eq_true, decide_eq_true_eq] at this; omega
  · rw [List.getD_eq_getElem?_getD, List.getElem?_eq_none (by omega)]; simp

theorem giveE_no {s : List Int} {bits : Int} (h : ¬ (rightF s = false ∨ bits < 0 ∨ 1048576 < bits)) : giveE s bits = 0 := by unfold giveE; rw [if_neg h]
theorem giveE_yes {s : List Int} {bits : Int} (h : rightF s = false ∨ bits < 0 ∨ 1048576 < bits) : giveE s bits = 1 := by unfold giveE; rw [if_pos h]

theorem pure57 (s : List Int) (bits : Int) (hl : s.length = 8) : P57 s bits := by
  unfold P57
  intro b hb b1 hb1
  refine ⟨by cases b <;> cases b1 <;> simp, ?_⟩
  by_cases harg : rightF s = false ∨ bits < 0 ∨ 1048576 < bits
  · have e1 : (bif b1 then true else decide (1048576 < bits)) = true := by
      rw [← hb1, ← hb]
      by_cases h1 : rightF s = false
      · simp [h1]
      · by_cases h2 : bits < 0
        · simp [h2]
        · have h3 : 1048576 < bits := by rcases harg with h | h | h <;> first | exact h | exact absurd h h1 | exact absurd h h2
          simp [h3]
    have hE := giveE_yes harg
    rw [e1, cond_true]
    unfold giveV
    rw [hE, if_neg (by decide)]
    exact ⟨rfl, rfl⟩
  · have h1 : rightF s = true := by
      cases h : rightF s with
      | true => rfl
      | false => exact absurd (Or.inl h) harg
    have h2 : 0 ≤ bits ∧ bits ≤ 1048576 := by
      constructor
      · exact Int.not_lt.1 fun h => harg (.inr (.inl h))
      · exact Int.not_lt.1 fun h => harg (.inr (.inr h))
    have e1 : (bif b1 then true else decide (1048576 < bits)) = false := by
      rw [← hb1, ← hb, h1]
      have a1 : ¬ bits < 0 := by omega
      have a2 : ¬ 1048576 < bits := by omega
      simp [a1, a2]
    have hE := giveE_no harg
    have hV : giveV s bits = (giveRun 200 (pushQ s 8, z8, bits)).2.1 := by unfold giveV; rw [if_pos hE]; rfl
    rw [e1, cond_false, hV, hE]
    clear hb hb1 e1
    simp only [eq_self, true_and, and_true, Int.toNat_natCast]
    refine ⟨0, ⟨⟨rfl, rfl, rfl, rfl, rfl⟩, by omega⟩, fun i hi _ => ?_⟩
    by_cases h8 : (i : Int) < 8
    · simp only [h8, decide_true, cond_true]
      exact ⟨by omega, ⟨(pushQ_len s i).symm, by omega⟩, i + 1, ⟨step_i (by omega), rfl, rfl, rfl, rfl⟩, by omega, by omega⟩
    · have : i = 8 := by omega
      subst this
      simp only [h8, decide_false, cond_false]
      refine ⟨(pushQ s 8, z8, bits), ⟨⟨rfl, rfl, rfl, (pushQ_len s 8).symm, rfl⟩, GI.init s h2.1, by rw [giveMu_init]⟩, fun x hx _ => ?_⟩
      obtain ⟨G, he⟩ := hx
      by_cases h0 : (0 : Int) < ((x.1.length : Nat) : Int)
      · simp only [h0, decide_true, cond_true]
        have h0' : 0 < x.1.length := by omega
        obtain ⟨G2, hmu⟩ := G.step h0'
        have hlen := G.len
        obtain ⟨c, hc, e, -⟩ := G.top h0'
        have hk := G.kr c hc
        have hs := right_at h1 c
        have hb0 := G.b0
        have hsum := G.sum
        have hsC := sumC_fits x.2.1
        have hstep : giveRun (giveMu (giveStep x)) (giveStep x) = giveRun 200 (pushQ s 8, z8, bits) := by
          rw [← he]
          obtain ⟨m, hm⟩ : ∃ m, giveMu x = m + 1 := ⟨giveMu x - 1, by omega⟩
          rw [hm, giveRun_step h0', (giveRun_fuel m _ G2 (by omega)).1]
        have hpl := pop_len ltQ qz h0'
        have hz : ((0 : Int), (0 : Int)) = qz := rfl
        simp only [hz, e, Int.toNat_natCast]
        rw [w64 (n := x.2.1.getD c 0 + 1) (by omega) (by omega)]
        refine ⟨⟨by omega, by omega⟩, ⟨⟨by omega, by omega⟩, by omega⟩, ?_⟩
        intro d hd
        have hd' : d = false → x.2.1.getD c 0 < 12 := by
          intro hdf
          rw [hdf] at hd
          simpa using hd
        have hd2 : (!d) = true → x.2.1.getD c 0 < 12 := fun h => hd' (by cases d with
          | true => cases h
          | false => rfl)
        refine ⟨⟨fun h => h, fun h => ⟨h, by have := hd2 h; omega⟩, fun h => ⟨h, by have := hd2 h; omega⟩, fun h => ⟨h, by have := hd2 h; omega⟩, fun h => ⟨h, by have := hd2 h; omega⟩, fun h => ⟨h, h⟩, fun h => ⟨h, h⟩, fun h => by rw [h]; rfl⟩, ?_⟩
        have hcond : (bif d then true else decide (x.2.2 < IntKind.i64.wrap (costF.getD (x.2.1.getD c 0 + 1).toNat 0 - costF.getD (x.2.1.getD c 0).toNat 0))) = noMore (x.2.1.getD c 0) x.2.2 := by
          unfold noMore
          rw [hd]
          cases d with
          | true => rfl
          | false =>
            have hm := more_nn hk.1 (hd' rfl)
            unfold moreF at hm ⊢
            rw [w64 (by omega) (by omega)]; rfl
        rw [hcond]
        cases hn : noMore (x.2.1.getD c 0) x.2.2 with
        | true =>
          simp only [cond_true]
          have e2 : giveStep x = (popL ltQ qz x.1, x.2.1, x.2.2) := by
            unfold giveStep; simp only [e, Int.toNat_natCast, hn, if_true]
          rw [e2] at G2 hmu hstep
          exact ⟨(popL ltQ qz x.1, x.2.1, x.2.2), ⟨rfl, rfl, rfl, hpl.symm, rfl⟩, ⟨G2, hstep⟩, hmu⟩
        | false =>
          simp only [cond_false]
          have hn' : x.2.1.getD c 0 < 12 ∧ moreF (x.2.1.getD c 0) ≤ x.2.2 := feas_iff.2 hn
          have hm := more_nn hk.1 hn'.1
          have e2 : giveStep x = (pushL ltQ qz (popL ltQ qz x.1) ((c : Int), s.getD c 0 - x.2.1.getD c 0 - 1), x.2.1.set c (x.2.1.getD c 0 + 1), x.2.2 - moreF (x.2.1.getD c 0)) := by
            unfold giveStep; simp only [e, Int.toNat_natCast, hn]; rfl
          rw [e2] at G2 hmu hstep
          have w1 : IntKind.i64.wrap (costF.getD (x.2.1.getD c 0 + 1).toNat 0 - costF.getD (x.2.1.getD c 0).toNat 0) = moreF (x.2.1.getD c 0) := by
            unfold moreF at hm ⊢; exact w64 (by omega) (by omega)
          rw [w1, w64 (n := x.2.2 - moreF (x.2.1.getD c 0)) (by omega) (by omega), w64 (n := s.getD c 0 - x.2.1.getD c 0 - 1) (by omega) (by omega)]
          refine ⟨⟨⟨by omega, by omega⟩, by omega, ⟨by omega, by omega⟩, by omega⟩, ⟨⟨by omega, by omega⟩, by omega, ⟨by omega, by omega⟩, by omega⟩, ⟨hpl.symm, by omega⟩, _, ⟨rfl, rfl, rfl, ?_, rfl⟩, ⟨G2, hstep⟩, hmu⟩
          simp only [pushL_len, hpl]
      · simp only [h0, decide_false, cond_false]
        have hx : x.1 = [] := List.eq_nil_of_length_eq_zero (by omega)
        rw [giveRun_nil _ x hx] at he
        rw [← he]

theorem pure62 (s : List Int) (bits : Int) (h1 : rightF s = true) (h2 : 0 ≤ bits ∧ bits ≤ 1048576) (hl : s.length = 8) : P62 s bits := by
  unfold P62
  simp only [eq_self, true_and, and_true, Int.toNat_natCast]
  refine ⟨0, ⟨⟨rfl, rfl, rfl⟩, by omega⟩, fun i hi _ => ?_⟩
  by_cases h13 : (i : Int) < 13
  · simp only [h13, decide_true, cond_true]
    exact ⟨⟨by omega, by omega, by omega⟩, i + 1, ⟨step_i (by omega), rfl, set_step (by rw [costF_len]; omega) (by simp; omega) (costF_at (by omega))⟩, by omega, by omega⟩
  · have eC : List.take i costF ++ List.drop i (List.replicate 13 (0 : Int)) = costF := cost_end (by omega)
    have eC' : List.append (List.take i costF) (List.drop i (List.replicate 13 (0 : Int))) = costF := eC
    simp only [h13, decide_false, cond_false, eC, eC', eq_self, true_and, and_true]
    refine ⟨(100, z8, bits), ⟨⟨rfl, rfl, rfl⟩, ⟨rfl, fun b _ => by simp only [z8_at]; omega, h2.1, Int.le_refl _⟩, by show (100 : Nat) ≤ 100; decide, by show 96 - sumK z8 < ((100 : Nat) : Int); decide, rfl⟩, fun x hx _ => ?_⟩
    obtain ⟨f, k, m⟩ := x
    obtain ⟨R, hf, hsk, he⟩ := hx
    simp only at R hf hsk he ⊢
    have hm0 := R.b0
    have hm1 := R.b1
    simp only at hm0 hm1
    have hkr := R.kr
    have hkl := R.klen
    simp only at hkr hkl
    refine ⟨0, ⟨⟨rfl, rfl, rfl⟩, by omega⟩, fun b hb _ => ?_⟩
    by_cases h8 : (b : Int) < 8
    · simp only [h8, decide_true, cond_true]
      have hk := hkr b (by omega)
      have hs := right_at h1 b
      rw [w64 (n := k.getD b 0 + 1) (by omega) (by omega)]
      intro p hp q hq r hr
      have hp12 : p = true → k.getD b 0 < 12 := fun hpt => by rw [hpt] at hp; simpa using hp
      have hqf : q = true ↔ feas k m b := by
        unfold feas
        rw [← hq]
        cases p with
        | true =>
          have hk12 := hp12 rfl
          have hmm := more_nn hk.1 hk12
          unfold moreF at hmm ⊢
          rw [w64 (by omega) (by omega), cond_true, decide_eq_true_eq]
          exact ⟨fun h => ⟨hk12, h⟩, fun h => h.2⟩
        | false =>
          have : ¬ k.getD b 0 < 12 := by simpa using hp
          rw [cond_false]
          exact ⟨fun h => (by cases h), fun h => absurd h.1 this⟩
      have hbc := best_cases s k m b
      have hrr : r = true ↔ bestTo s k m b < 0 := by rw [← hr]; simp
      have hbest : (q && q && !r) = true → ∃ c : Nat, c < b ∧ bestTo s k m b = (c : Int) := by
        intro h
        have hrf : r = false := by cases r <;> simp_all
        rcases hbc with ⟨h3, _⟩ | ⟨c, h3, h4, _⟩
        · have := hrr.2 (by omega); rw [hrf] at this; cases this
        · exact ⟨c, h3, h4⟩
      have bnd : (q && q && !r) = true → 0 ≤ bestTo s k m b ∧ bestTo s k m b < ((8 : Nat) : Int) ∧ (bestTo s k m b).toNat < 8 := by
        intro h
        obtain ⟨c, h3, h4⟩ := hbest h
        rw [h4]; omega
      have hv : (bif q then bif r then true else decide (IntKind.i64.wrap (s.getD (bestTo s k m b).toNat 0 - k.getD (bestTo s k m b).toNat 0) < IntKind.i64.wrap (s.getD b 0 - k.getD b 0)) else false) = true ↔
          (k.getD b 0 < 12 ∧ moreF (k.getD b 0) ≤ m ∧ (bestTo s k m b < 0 ∨ s.getD (bestTo s k m b).toNat 0 - k.getD (bestTo s k m b).toNat 0 < s.getD b 0 - k.getD b 0)) := by
        cases q with
        | false =>
          simp only [cond_false, Bool.false_eq_true, false_iff]
          rintro ⟨h3, h4, -⟩
          have := hqf.2 ⟨h3, h4⟩
          cases this
        | true =>
          obtain ⟨h3, h4⟩ := hqf.1 rfl
          cases r with
          | true => simp only [cond_true, true_iff]; exact ⟨h3, h4, .inl (hrr.1 rfl)⟩
          | false =>
            obtain ⟨c, h5, h6⟩ := hbest rfl
            have hkc := hkr c (by omega)
            have hsc := right_at h1 c
            rw [h6]
            simp only [Int.toNat_natCast, cond_true, cond_false, decide_eq_true_eq]
            rw [w64 (n := s.getD c 0 - k.getD c 0) (by omega) (by omega), w64 (n := s.getD b 0 - k.getD b 0) (by omega) (by omega)]
            constructor
            · intro h; exact ⟨h3, h4, .inr h⟩
            · rintro ⟨-, -, h | h⟩
              · omega
              · exact h
      have e8 : ((8 : Nat) : Int) = 8 := rfl
      refine ⟨⟨by omega, by omega, fun h => ⟨h, by omega⟩, fun h => ⟨h, by omega⟩, fun h => h, fun h => ⟨h, by have := hp12 h; omega⟩, fun h => ⟨h, by have := hp12 h; omega⟩, fun h => ⟨h, by omega⟩, fun h => ⟨h, by omega⟩, fun h => ⟨h, by omega⟩, fun h => ⟨h, by omega⟩, fun h => ⟨h, h⟩, fun h => ⟨h, h⟩, fun h => h, fun h => h,
        fun h => ⟨h, by omega⟩, fun h => ⟨h, by omega⟩, fun h => ⟨h, by omega⟩, fun h => ⟨h, by omega⟩, fun h => ⟨h, h⟩, fun h => ⟨h, by have := bnd h; omega⟩, fun h => ⟨h, by have := bnd h; omega⟩, fun h => ⟨h, by have := bnd h; omega⟩, fun h => ⟨h, by have := bnd h; omega⟩, fun h => ⟨h, h⟩, fun h => ⟨h, h⟩, fun h => ?_, fun h => h⟩, ?_⟩
      · subst h; refine ⟨rfl, fun h => by subst h; rfl⟩
      · have hnext : bestTo s k m (b + 1) = if k.getD b 0 < 12 ∧ moreF (k.getD b 0) ≤ m ∧ (bestTo s k m b < 0 ∨ s.getD (bestTo s k m b).toNat 0 - k.getD (bestTo s k m b).toNat 0 < s.getD b 0 - k.getD b 0) then (b : Int) else bestTo s k m b := rfl
        generalize hV : (bif q then bif r then true else decide (IntKind.i64.wrap (s.getD (bestTo s k m b).toNat 0 - k.getD (bestTo s k m b).toNat 0) < IntKind.i64.wrap (s.getD b 0 - k.getD b 0)) else false) = V at hv
        cases V with
        | true =>
          rw [if_pos (hv.1 rfl)] at hnext
          simp only [cond_true]
          exact ⟨b + 1, ⟨hnext.symm, step_i (by omega), rfl⟩, by omega, by omega⟩
        | false =>
          rw [if_neg (fun h => by have := hv.2 h; cases this)] at hnext
          simp only [cond_false]
          exact ⟨b + 1, ⟨hnext.symm, step_i (by omega), rfl⟩, by omega, by omega⟩
    · have : b = 8 := by omega
      subst this
      simp only [h8, decide_false, cond_false]
      by_cases hneg : bestTo s k m 8 < 0
      · simp only [hneg, decide_true, cond_true]
        rw [← he, refRun_stop (by exact hneg)]
      · simp only [hneg, decide_false, cond_false]
        rcases best_cases s k m 8 with ⟨h3, _⟩ | ⟨c, h3, h4, h5⟩
        · omega
        · rw [h4]
          simp only [Int.toNat_natCast]
          have hkc := hkr c h3
          have hmm := more_nn hkc.1 h5.1
          have h6 := h5.2
          rw [w64 (n := k.getD c 0 + 1) (by omega) (by omega)]
          have hcl : c < k.length := by omega
          have cost_fit : ∀ j, 0 ≤ costF.getD j 0 ∧ costF.getD j 0 ≤ 10000000000 := by
            intro j
            by_cases hj : j < 13
            · rw [List.getD_eq_getElem?_getD, costF_at hj]; exact bitsF_fits _
            · rw [List.getD_eq_getElem?_getD, List.getElem?_eq_none (by rw [costF_len]; omega)]; simp
          have c1 := cost_fit (k.getD c 0 + 1).toNat
          have c2 := cost_fit (k.getD c 0).toNat
          have hw : IntKind.i64.wrap (IntKind.i64.wrap (m - costF.getD (k.getD c 0 + 1).toNat 0) + costF.getD (k.getD c 0).toNat 0) = m - moreF (k.getD c 0) := by
            unfold moreF
            rw [w64 (n := m - costF.getD (k.getD c 0 + 1).toNat 0) (by omega) (by omega), w64 (by omega) (by omega)]; omega
          rw [hw]
          have hset := set_at k c
          have h51 := h5.1
          refine ⟨⟨⟨by omega, by omega⟩, by omega, ⟨by omega, by omega⟩, by omega, ⟨by omega, by omega⟩, by omega, ⟨by omega, by omega⟩, by omega⟩, ⟨⟨by omega, by omega⟩, by omega, ⟨by omega, by omega⟩, by omega⟩, (f - 1, k.set c (k.getD c 0 + 1), m - moreF (k.getD c 0)), ⟨rfl, rfl, rfl⟩, ⟨⟨by simp only [List.length_set]; exact hkl, fun d hd => ?_, by simp only; omega, by simp only; omega⟩, by simp only; omega, ?_, ?_⟩, ?_⟩
          · simp only [hset d _ hcl]
            split
            · have := h5.1; omega
            · exact hkr d hd
          · simp only [sumK_set _ _ _ hcl]
            have hsl := sumK_le k (fun d hd => (hkr d (by omega)).2)
            rw [hkl] at hsl
            omega
          · have hsl := sumK_le k (fun d hd => (hkr d (by omega)).2)
            rw [hkl] at hsl
            obtain ⟨g, rfl⟩ : ∃ g, f = g + 1 := ⟨f - 1, by omega⟩
            rw [← he, refRun, if_neg (by simp only; omega)]
            simp only [h4, Int.toNat_natCast, Nat.add_sub_cancel]
          · have hsl := sumK_le k (fun d hd => (hkr d (by omega)).2)
            rw [hkl] at hsl
            simp only; omega

end Go.SL.A

/- Functions do what they are held to do. -/
namespace Go.SL.A
open Go Go.SL Go.SL.S
theorem snd57 : Sound Go.Proofs.Tryd.prog G57 := snd61.add ⟨_, Go.Proofs.Tryd.func80, by kernel_rfl, by kernel_rfl⟩ (by
  intro args ins out h hp
  unfold sp57 at h
  split at h
  · rename_i s bits
    cases h
    exact vcFun_ok (C := C57) good snd61 methOk18 mix Go.Proofs.Tryd.func80 (ann57 s bits) (fun hw => by rw [← vc57 s bits]; exact pure57 s bits (hw57 hw))
  · cases h)

theorem snd62 : Sound Go.Proofs.Tryd.prog G62 := snd57.add ⟨_, Go.Proofs.Tryd.func63, by kernel_rfl, by kernel_rfl⟩ (by
  intro args ins out h hp
  unfold sp62 at h
  split at h
  · rename_i s bits
    cases h
    exact vcFun_ok (C := C62) good snd57 methOk18 mix Go.Proofs.Tryd.func63 (ann62 s bits) (fun hw => by rw [← vc62 s bits]; exact pure62 s bits hp.1 hp.2 (hw57 hw))
  · cases h)

end Go.SL.A

/- Statements of give: plain functions. -/
namespace Go.SL.S
open Go Go.SL
def topTo (h : List Int) : Nat → Int
  | 0 => 0
  | i + 1 => max (topTo h i) (h.getD i 0)
def bestIx (h : List Int) : Nat → Nat
  | 0 => 0
  | i + 1 => if h.getD (bestIx h i) 0 < h.getD i 0 then i else bestIx h i
end Go.SL.S

/- Statements of give: plain laws. -/
namespace Go.SL.A
open Go Go.SL Go.SL.S

theorem hw15 {s : List Int} {bits a : Int} (hw : Go.SL.allP (List.flatMap (fun a : AV => a.t.wf a.x) [⟨.arr 8 (.int .i64), s⟩, ⟨.int .u16, bits⟩, ⟨.int .u8, a⟩] ++ List.flatMap Blk.wf [])) : s.length = 8 ∧ (0 ≤ bits ∧ bits ≤ 65535) ∧ 0 ≤ a ∧ a ≤ 255 := by
  simp only [List.flatMap_cons, List.flatMap_nil, Ty.wf, List.append_nil, List.cons_append, List.nil_append, Go.SL.allP] at hw
  exact ⟨hw.1, ⟨hw.2.2.1, hw.2.2.2.1⟩, hw.2.2.2.2.1, hw.2.2.2.2.2⟩
theorem hw16 {s : List Int} {bits : Int} (hw : Go.SL.allP (List.flatMap (fun a : AV => a.t.wf a.x) [⟨.arr 8 (.int .i64), s⟩, ⟨.int .u16, bits⟩] ++ List.flatMap Blk.wf [])) : s.length = 8 ∧ 0 ≤ bits ∧ bits ≤ 65535 := by
  simp only [List.flatMap_cons, List.flatMap_nil, Ty.wf, List.append_nil, List.cons_append, List.nil_append, Go.SL.allP] at hw
  exact ⟨hw.1, hw.2.2.1, hw.2.2.2⟩
theorem hw18 {s : List Int} {bits z : Int} (hw : Go.SL.allP (List.flatMap (fun a : AV => a.t.wf a.x) [⟨.arr 8 (.int .i64), s⟩, ⟨.int .i64, bits⟩, ⟨.int .i64, z⟩] ++ List.flatMap Blk.wf [])) : s.length = 8 := by
  simp only [List.flatMap_cons, List.flatMap_nil, Ty.wf, List.append_nil, List.cons_append, List.nil_append, Go.SL.allP] at hw
  exact hw.1

theorem iand15 (x : Int) : 0 ≤ iand .i64 x 15 ∧ iand .i64 x 15 ≤ 15 := by
  unfold iand
  have h : (BitVec.ofInt IntKind.i64.bits x &&& BitVec.ofInt IntKind.i64.bits 15).toNat ≤ 15 := by
    rw [BitVec.toNat_and]
    have : (BitVec.ofInt IntKind.i64.bits 15).toNat = 15 := by decide
    rw [this]
    exact Nat.and_le_right
  rw [w64 (by omega) (by omega)]
  omega

theorem held8_right (s : List Int) : rightF (held8 s) = true := by
  unfold rightF held8
  simp only [Bool.not_eq_true', List.any_eq_false, List.mem_map]
  rintro _ ⟨x, -, rfl⟩
  have := iand15 x
  unfold badF
  simp only [Bool.or_eq_true, decide_eq_true_eq]; omega

theorem held8_len {s : List Int} (h : s.length = 8) : (held8 s).length = 8 := by simp [held8, h]

theorem eqbA {n : Nat} {a b : List Int} (ha : a.length = n) (hb : b.length = n) : (Ty.arr n (Ty.int .i64)).eqb a b = decide (a = b) := by
  rw [Bool.eq_iff_iff]
  simp only [Ty.eqb, List.all_eq_true, List.mem_range, decide_eq_true_eq]
  constructor
  · intro h
    refine List.ext_getElem (by omega) fun i h1 h2 => ?_
    have := h i (by omega)
    rw [List.getD_eq_getElem?_getD, List.getD_eq_getElem?_getD, List.getElem?_eq_getElem h1, List.getElem?_eq_getElem h2] at this
    exact this
  · intro h i _
    rw [h]

theorem giveV_ok {s : List Int} {bits : Int} (h1 : rightF s = true) (h2 : 0 ≤ bits ∧ bits ≤ 1048576) : giveE s bits = 0 ∧ giveV s bits = giveF s bits := by
  have hE := giveE_no (s := s) (bits := bits) (by rw [h1]; simp; omega)
  exact ⟨hE, by unfold giveV; rw [if_pos hE]⟩

theorem getD_add (s : List Int) (m : Int) {i : Nat} (h : i < s.length) : (s.map (· + m)).getD i 0 = s.getD i 0 + m := by
  simp [List.getD_eq_getElem?_getD, List.getElem?_eq_getElem h]

theorem best_shift {s : List Int} (hl : s.length = 8) (m : Int) (k : List Int) (bits : Int) : ∀ n, n ≤ 8 → bestTo (s.map (· + m)) k bits n = bestTo s k bits n
  | 0, _ => rfl
  | n + 1, h => by
    rw [bestTo, bestTo, best_shift hl m k bits n (by omega)]
    rcases best_cases s k bits n with ⟨h1, _⟩ | ⟨c, h1, h2, _⟩
    · rw [h1]
      have e : ∀ p q : Prop, ((-1 : Int) < 0 ∨ p) = ((-1 : Int) < 0 ∨ q) := fun p q => propext ⟨fun _ => .inl (by omega), fun _ => .inl (by omega)⟩
      simp only [e _ (s.getD (-1 : Int).toNat 0 - k.getD (-1 : Int).toNat 0 < s.getD n 0 - k.getD n 0)]
    · rw [h2]
      simp only [Int.toNat_natCast]
      have g1 := getD_add s m (i := c) (by omega)
      have g2 := getD_add s m (i := n) (by omega)
      simp only [g1, g2]
      have e : (s.getD c 0 + m - k.getD c 0 < s.getD n 0 + m - k.getD n 0) = (s.getD c 0 - k.getD c 0 < s.getD n 0 - k.getD n 0) := propext ⟨fun _ => by omega, fun _ => by omega⟩
      simp only [e]

theorem refRun_shift {s : List Int} (hl : s.length = 8) (m : Int) : ∀ (f : Nat) (x : List Int × Int), refRun (s.map (· + m)) f x = refRun s f x
  | 0, _ => rfl
  | f + 1, x => by rw [refRun, refRun, best_shift hl m _ _ 8 (Nat.le_refl _), refRun_shift hl m f]

theorem giveF_shift {s : List Int} (hl : s.length = 8) (m : Int) {B : Int} (hB : 0 ≤ B) : giveF (s.map (· + m)) B = giveF s B := by
  rw [give_eq _ hB, give_eq _ hB]
  exact refRun_shift hl m 100 _

theorem refRun_mono (s : List Int) : ∀ (f : Nat) (x : List Int × Int), x.1.length = 8 → ∀ b, x.1.getD b 0 ≤ (refRun s f x).getD b 0
  | 0, x, _, b => Int.le_refl _
  | f + 1, x, hl, b => by
    rw [refRun]
    split
    · exact Int.le_refl _
    · rename_i h
      rcases best_cases s x.1 x.2 8 with ⟨h1, _⟩ | ⟨c, h1, h2, _⟩
      · omega
      · have := refRun_mono s f (x.1.set (bestTo s x.1 x.2 8).toNat (x.1.getD (bestTo s x.1 x.2 8).toNat 0 + 1), x.2 - moreF (x.1.getD (bestTo s x.1 x.2 8).toNat 0)) (by simp only [List.length_set]; exact hl) b
        refine Int.le_trans ?_ this
        simp only [h2, Int.toNat_natCast]
        rw [set_at _ _ _ _ (by omega)]
        split
        · rename_i e; subst e; omega
        · exact Int.le_refl _

theorem bestIx_spec (h : List Int) : ∀ i, 1 ≤ i → bestIx h i < i ∧ ∀ c, c < i → h.getD c 0 ≤ h.getD (bestIx h i) 0 ∧ (c < bestIx h i → h.getD c 0 < h.getD (bestIx h i) 0)
  | 0, hi => by omega
  | 1, _ => by
    have e : bestIx h 1 = 0 := by rw [bestIx, bestIx]; split <;> rfl
    rw [e]
    refine ⟨by omega, fun c hc => ?_⟩
    have : c = 0 := by omega
    subst this
    exact ⟨Int.le_refl _, fun h => by omega⟩
  | i + 2, _ => by
    obtain ⟨h1, h2⟩ := bestIx_spec h (i + 1) (by omega)
    rw [bestIx]
    split
    · rename_i hlt
      refine ⟨by omega, fun c hc => ?_⟩
      by_cases e : c = i + 1
      · subst e; exact ⟨Int.le_refl _, fun h => by omega⟩
      · have := (h2 c (by omega)).1
        exact ⟨by omega, fun _ => by omega⟩
    · rename_i hlt
      refine ⟨by omega, fun c hc => ?_⟩
      by_cases e : c = i + 1
      · subst e; exact ⟨by omega, fun _ => by omega⟩
      · exact h2 c (by omega)

theorem more0 : moreF 0 = 3 := by decide +kernel

theorem give_first {h : List Int} {n : Int} (h3 : 3 ≤ n) : 0 < (giveF h n).getD (bestIx h 8) 0 := by
  rw [give_eq h (by omega)]
  obtain ⟨b1, b2⟩ := bestIx_spec h 8 (by omega)
  have hf : ∀ c, feas z8 n c := fun c => by unfold feas; rw [z8_at, more0]; omega
  have hb := best_is h z8 n (hf (bestIx h 8)) 8 b1 (fun c hc _ => by
    have := b2 c hc
    rw [z8_at, z8_at]; omega)
  unfold refF
  rw [show (100 : Nat) = 99 + 1 from rfl, refRun, if_neg (by rw [hb]; omega)]
  simp only [hb, Int.toNat_natCast]
  have hm := refRun_mono h 99 (z8.set (bestIx h 8) (z8.getD (bestIx h 8) 0 + 1), n - moreF (z8.getD (bestIx h 8) 0)) (by simp only [List.length_set]; rfl) (bestIx h 8)
  simp only at hm
  rw [set_at _ _ _ _ (by show bestIx h 8 < 8; exact b1), if_pos rfl, z8_at] at hm
  rw [z8_at]
  omega

theorem give_none (h : List Int) : giveF h 0 = z8 := by
  rw [give_eq h (by omega)]
  refine refRun_stop (s := h) (x := (z8, 0)) ?_
  rcases best_cases h z8 0 8 with ⟨h1, _⟩ | ⟨c, _, _, h3⟩
  · simp only [h1]; decide
  · have := h3.2
    rw [z8_at, more0] at this; omega

theorem topTo_spec (h : List Int) (hr : ∀ b, 0 ≤ h.getD b 0 ∧ h.getD b 0 ≤ 15) : ∀ i, (0 ≤ topTo h i ∧ topTo h i ≤ 15) ∧ ∀ c, c < i → h.getD c 0 ≤ topTo h i
  | 0 => ⟨by simp [topTo], fun c h => by omega⟩
  | i + 1 => by
    obtain ⟨h1, h2⟩ := topTo_spec h hr i
    have := hr i
    rw [topTo]
    refine ⟨by omega, fun c hc => ?_⟩
    by_cases e : c = i
    · subst e; omega
    · have := h2 c (by omega); omega

end Go.SL.A
