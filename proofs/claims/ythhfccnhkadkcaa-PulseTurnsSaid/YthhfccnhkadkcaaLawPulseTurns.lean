/- PulseTurns returns true, whatever its arguments, which read afterwards as before: no condition. -/
import Derived.Test.YthhfccnhkadkcaaRows
import Derived.Test.YthhfccnhkadkcaaPulse
import Derived.Test.YthhfccnhkadkcaaKb
import Derived.Test.YthhfccnhkadkcaaT

/- Functions and what they are held to do: bound to their code. -/
namespace Go.SL.A
open Go Go.SL Go.SL.S
set_option maxRecDepth 100000
noncomputable def C14 : Ctx := ⟨Go.Proofs.Try.prog, D, G50, meth14, fun _ => []⟩
def ann14 (c : List Int) (s k : Int) : Nat → St → Option Ann := fun id S => match id with | 0 => some ⟨Nat, [1, 2, 7, 8], [1], fun i => [(9, .v (.int .i64) (i : Int))], fun i => [(2, some ⟨false, true, .arr 4 (.int .i64), [((heldL c).map fun x => -x).take i ++ [0, 0, 0, 0].drop i]⟩)], fun i => i ≤ 4 ∧ ((heldL c).take i).all (fun x => decide (x ≠ 0)) = true, fun i => 4 - i⟩ | _ => some ⟨Nat, [7, 8, 10, 12, 13, 14, 15], [1, 2, 3, 4], fun i => [(16, .v (.int .i64) (i : Int))], fun _ => [], fun i => i ≤ 4, fun i => 4 - i⟩
def out14 (c : List Int) (s k : Int) : COut := ⟨[], .v .bool true, [], []⟩
def sp14 : Spec := fun args ins => match args, ins with
  | [⟨.arr 4 (.int .i64), c⟩, ⟨.int .u8, s⟩, ⟨.int .u8, k⟩], [] => some (out14 c s k)
  | _, _ => none
def G14 := addG G50 14 sp14
def P14 (c : List Int) (s k : Int) : Prop :=
  ∃ (x : Nat), ((s = s ∧ k = k ∧ (0 : Nat) = (0 : Nat) ∧ (0 : Nat) = (0 : Nat) ∧ (0 : Int) = (↑x : Int) ∧ heldL c = heldL c ∧ false = false ∧ (0 : Int) :: List.replicate (nat_lit 3) (0 : Int) = List.take x (List.map (fun (x
  : Int) => -x) (heldL c)) ++ List.drop x [(0 : Int), (0 : Int), (0 : Int), (0 : Int)] ∧ false = false) ∧ x ≤ (4 : Nat) ∧ (List.all (List.take x (heldL c)) fun (x : Int) => decide (x ≠ (0 : Int))) = true) ∧ ∀ (x : Nat), x ≤
  (4 : Nat) ∧ (List.all (List.take x (heldL c)) fun (x : Int) => decide (x ≠ (0 : Int))) = true → (IntKind.min IntKind.i64 ≤ (↑x : Int) ∧ (↑x : Int) ≤ IntKind.max IntKind.i64 ∧ ∀ (y : List Int), List.Mem y [List.take x
  (List.map (fun (x : Int) => -x) (heldL c)) ++ List.drop x [(0 : Int), (0 : Int), (0 : Int), (0 : Int)]] → List.length y = (4 : Nat) ∧ ∀ (y_1 : Int), List.Mem y_1 y → IntKind.min IntKind.i64 ≤ y_1 ∧ y_1 ≤ IntKind.max
  IntKind.i64) → bif decide ((↑x : Int) < (4 : Int)) then (((0 : Int) ≤ (↑x : Int) ∧ (↑x : Int) < (↑(4 : Nat) : Int)) ∧ Int.toNat (↑x : Int) < (4 : Nat)) ∧ bif decide (List.getD (heldL c) (Int.toNat (↑x : Int)) (0 : Int) =
  (0 : Int)) then true = true else (((0 : Int) ≤ (↑x : Int) ∧ (↑x : Int) < (↑(4 : Nat) : Int)) ∧ Int.toNat (↑x : Int) < (4 : Nat) ∧ ((0 : Int) ≤ (↑x : Int) ∧ (↑x : Int) < (↑(4 : Nat) : Int)) ∧ Int.toNat (↑x : Int) < (4 :
  Nat)) ∧ ∃ (y : Nat), (s = s ∧ k = k ∧ (0 : Nat) = (0 : Nat) ∧ (0 : Nat) = (0 : Nat) ∧ IntKind.wrap IntKind.i64 ((↑x : Int) + (1 : Int)) = (↑y : Int) ∧ heldL c = heldL c ∧ false = false ∧ List.set (List.take x (List.map
  (fun (x : Int) => -x) (heldL c)) ++ List.drop x [(0 : Int), (0 : Int), (0 : Int), (0 : Int)]) (Int.toNat (↑x : Int)) (IntKind.wrap IntKind.i64 ((0 : Int) - List.getD (heldL c) (Int.toNat (↑x : Int)) (0 : Int))) =
  List.take y (List.map (fun (x : Int) => -x) (heldL c)) ++ List.drop y [(0 : Int), (0 : Int), (0 : Int), (0 : Int)] ∧ false = false) ∧ (y ≤ (4 : Nat) ∧ (List.all (List.take y (heldL c)) fun (x : Int) => decide (x ≠ (0 :
  Int))) = true) ∧ (4 : Nat) - y < (4 : Nat) - x else ((16 : Int) ≠ (0 : Int) ∧ (13 : Int) ≠ (0 : Int)) ∧ ∃ (x_1 : Nat), (((0 : Nat) = (0 : Nat) ∧ (0 : Nat) = (0 : Nat) ∧ Int.tmod (IntKind.wrap IntKind.i64 s) (16 : Int) =
  Int.tmod (IntKind.wrap IntKind.i64 s) (16 : Int) ∧ (0 : Nat) = (0 : Nat) ∧ findE (heldL c) (Int.tmod (IntKind.wrap IntKind.i64 s) (16 : Int)) (Int.tmod (IntKind.wrap IntKind.i64 k) (13 : Int)) = findE (heldL c) (Int.tmod
  (IntKind.wrap IntKind.i64 s) (16 : Int)) (Int.tmod (IntKind.wrap IntKind.i64 k) (13 : Int)) ∧ (0 : Nat) = (0 : Nat) ∧ findE (List.take x (List.map (fun (x : Int) => -x) (heldL c)) ++ List.drop x [(0 : Int), (0 : Int), (0
  : Int), (0 : Int)]) (Int.tmod (IntKind.wrap IntKind.i64 s) (16 : Int)) (Int.tmod (IntKind.wrap IntKind.i64 k) (13 : Int)) = findE (List.take x (List.map (fun (x : Int) => -x) (heldL c)) ++ List.drop x [(0 : Int), (0 :
  Int), (0 : Int), (0 : Int)]) (Int.tmod (IntKind.wrap IntKind.i64 s) (16 : Int)) (Int.tmod (IntKind.wrap IntKind.i64 k) (13 : Int)) ∧ (0 : Int) = (↑x_1 : Int) ∧ heldL c = heldL c ∧ false = false ∧ List.append (List.take x
  (List.map (fun (x : Int) => -x) (heldL c))) (List.drop x [(0 : Int), (0 : Int), (0 : Int), (0 : Int)]) = List.take x (List.map (fun (x : Int) => -x) (heldL c)) ++ List.drop x [(0 : Int), (0 : Int), (0 : Int), (0 : Int)] ∧
  false = false ∧ findV (heldL c) (Int.tmod (IntKind.wrap IntKind.i64 s) (16 : Int)) (Int.tmod (IntKind.wrap IntKind.i64 k) (13 : Int)) = findV (heldL c) (Int.tmod (IntKind.wrap IntKind.i64 s) (16 : Int)) (Int.tmod
  (IntKind.wrap IntKind.i64 k) (13 : Int)) ∧ false = false ∧ findV (List.take x (List.map (fun (x : Int) => -x) (heldL c)) ++ List.drop x [(0 : Int), (0 : Int), (0 : Int), (0 : Int)]) (Int.tmod (IntKind.wrap IntKind.i64 s)
  (16 : Int)) (Int.tmod (IntKind.wrap IntKind.i64 k) (13 : Int)) = findV (List.take x (List.map (fun (x : Int) => -x) (heldL c)) ++ List.drop x [(0 : Int), (0 : Int), (0 : Int), (0 : Int)]) (Int.tmod (IntKind.wrap
  IntKind.i64 s) (16 : Int)) (Int.tmod (IntKind.wrap IntKind.i64 k) (13 : Int)) ∧ false = false) ∧ x_1 ≤ (4 : Nat)) ∧ ∀ (x_2 : Nat), x_2 ≤ (4 : Nat) → IntKind.min IntKind.i64 ≤ (↑x_2 : Int) ∧ (↑x_2 : Int) ≤ IntKind.max
  IntKind.i64 → bif decide ((↑x_2 : Int) < (4 : Int)) then (((0 : Int) ≤ (↑x_2 : Int) ∧ (↑x_2 : Int) < (↑(4 : Nat) : Int)) ∧ Int.toNat (↑x_2 : Int) < (4 : Nat) ∧ ((0 : Int) ≤ (↑x_2 : Int) ∧ (↑x_2 : Int) < (↑(4 : Nat) :
  Int)) ∧ Int.toNat (↑x_2 : Int) < (4 : Nat)) ∧ bif !decide (List.getD (findV (heldL c) (Int.tmod (IntKind.wrap IntKind.i64 s) (16 : Int)) (Int.tmod (IntKind.wrap IntKind.i64 k) (13 : Int))) (Int.toNat (↑x_2 : Int)) (0 :
  Int) = IntKind.wrap IntKind.i64 ((0 : Int) - List.getD (findV (List.take x (List.map (fun (x : Int) => -x) (heldL c)) ++ List.drop x [(0 : Int), (0 : Int), (0 : Int), (0 : Int)]) (Int.tmod (IntKind.wrap IntKind.i64 s) (16
  : Int)) (Int.tmod (IntKind.wrap IntKind.i64 k) (13 : Int))) (Int.toNat (↑x_2 : Int)) (0 : Int))) then false = true else ∃ (y : Nat), ((0 : Nat) = (0 : Nat) ∧ (0 : Nat) = (0 : Nat) ∧ Int.tmod (IntKind.wrap IntKind.i64 s)
  (16 : Int) = Int.tmod (IntKind.wrap IntKind.i64 s) (16 : Int) ∧ (0 : Nat) = (0 : Nat) ∧ findE (heldL c) (Int.tmod (IntKind.wrap IntKind.i64 s) (16 : Int)) (Int.tmod (IntKind.wrap IntKind.i64 k) (13 : Int)) = findE (heldL
  c) (Int.tmod (IntKind.wrap IntKind.i64 s) (16 : Int)) (Int.tmod (IntKind.wrap IntKind.i64 k) (13 : Int)) ∧ (0 : Nat) = (0 : Nat) ∧ findE (List.take x (List.map (fun (x : Int) => -x) (heldL c)) ++ List.drop x [(0 : Int),
  (0 : Int), (0 : Int), (0 : Int)]) (Int.tmod (IntKind.wrap IntKind.i64 s) (16 : Int)) (Int.tmod (IntKind.wrap IntKind.i64 k) (13 : Int)) = findE (List.take x (List.map (fun (x : Int) => -x) (heldL c)) ++ List.drop x [(0 :
  Int), (0 : Int), (0 : Int), (0 : Int)]) (Int.tmod (IntKind.wrap IntKind.i64 s) (16 : Int)) (Int.tmod (IntKind.wrap IntKind.i64 k) (13 : Int)) ∧ IntKind.wrap IntKind.i64 ((↑x_2 : Int) + (1 : Int)) = (↑y : Int) ∧ heldL c =
  heldL c ∧ false = false ∧ List.append (List.take x (List.map (fun (x : Int) => -x) (heldL c))) (List.drop x [(0 : Int), (0 : Int), (0 : Int), (0 : Int)]) = List.take x (List.map (fun (x : Int) => -x) (heldL c)) ++
  List.drop x [(0 : Int), (0 : Int), (0 : Int), (0 : Int)] ∧ false = false ∧ findV (heldL c) (Int.tmod (IntKind.wrap IntKind.i64 s) (16 : Int)) (Int.tmod (IntKind.wrap IntKind.i64 k) (13 : Int)) = findV (heldL c) (Int.tmod
  (IntKind.wrap IntKind.i64 s) (16 : Int)) (Int.tmod (IntKind.wrap IntKind.i64 k) (13 : Int)) ∧ false = false ∧ findV (List.take x (List.map (fun (x : Int) => -x) (heldL c)) ++ List.drop x [(0 : Int), (0 : Int), (0 : Int),
  (0 : Int)]) (Int.tmod (IntKind.wrap IntKind.i64 s) (16 : Int)) (Int.tmod (IntKind.wrap IntKind.i64 k) (13 : Int)) = findV (List.take x (List.map (fun (x : Int) => -x) (heldL c)) ++ List.drop x [(0 : Int), (0 : Int), (0 :
  Int), (0 : Int)]) (Int.tmod (IntKind.wrap IntKind.i64 s) (16 : Int)) (Int.tmod (IntKind.wrap IntKind.i64 k) (13 : Int)) ∧ false = false) ∧ y ≤ (4 : Nat) ∧ (4 : Nat) - y < (4 : Nat) - x_2 else ∀ (b : Bool), decide (findE
  (heldL c) (Int.tmod (IntKind.wrap IntKind.i64 s) (16 : Int)) (Int.tmod (IntKind.wrap IntKind.i64 k) (13 : Int)) = (0 : Int)) = b → bif bif b then decide (findE (List.take x (List.map (fun (x : Int) => -x) (heldL c)) ++
  List.drop x [(0 : Int), (0 : Int), (0 : Int), (0 : Int)]) (Int.tmod (IntKind.wrap IntKind.i64 s) (16 : Int)) (Int.tmod (IntKind.wrap IntKind.i64 k) (13 : Int)) = (0 : Int)) else false then ((b = true → b = true) ∧ (b =
  true → b = true)) ∧ decide (distF (heldL c) (findV (heldL c) (Int.tmod (IntKind.wrap IntKind.i64 s) (16 : Int)) (Int.tmod (IntKind.wrap IntKind.i64 k) (13 : Int))) (Int.tmod (IntKind.wrap IntKind.i64 s) (16 : Int)) =
  distF (List.take x (List.map (fun (x : Int) => -x) (heldL c)) ++ List.drop x [(0 : Int), (0 : Int), (0 : Int), (0 : Int)]) (findV (List.take x (List.map (fun (x : Int) => -x) (heldL c)) ++ List.drop x [(0 : Int), (0 :
  Int), (0 : Int), (0 : Int)]) (Int.tmod (IntKind.wrap IntKind.i64 s) (16 : Int)) (Int.tmod (IntKind.wrap IntKind.i64 k) (13 : Int))) (Int.tmod (IntKind.wrap IntKind.i64 s) (16 : Int))) = true else ((b = true → b = true) ∧
  (b = true → b = true) ∧ (false = true → false = true)) ∧ false = true
theorem vc14 (c : List Int) (s k : Int) : P14 c s k = vcFun C14 (ann14 c s k) Go.Proofs.Try.f14 [⟨.arr 4 (.int .i64), c⟩, ⟨.int .u8, s⟩, ⟨.int .u8, k⟩] [] (out14 c s k) := by kernel_rfl

end Go.SL.A

namespace Go.SL.A
open Go Go.SL Go.SL.S

theorem absF_neg (x : Int) : absF (-x) = absF x := by unfold absF; omega

theorem pushTo_neg (c : List Int) (g : Int) : ∀ k, pushTo (c.map fun x => -x) g k = pushTo c g k
  | 0 => rfl
  | k + 1 => by
    rw [pushTo, pushTo, pushTo_neg c g k]
    have : absF ((c.map fun x => -x).getD k 0) = absF (c.getD k 0) := by
      simp only [List.getD_eq_getElem?_getD, List.getElem?_map]
      cases c[k]? with
      | none => rfl
      | some x => exact absF_neg x
    rw [this]

theorem neg_at (c : List Int) (i : Nat) : (c.map fun x => -x).getD i 0 = -(c.getD i 0) := by
  simp only [List.getD_eq_getElem?_getD, List.getElem?_map]
  cases c[i]? with
  | none => rfl
  | some x => rfl

theorem iterF_neg {c : List Int} (hc : ∀ i, i < 4 → c.getD i 0 ≠ 0) {g : Int} (hg : 0 ≤ g) : ∀ k, iterF (c.map fun x => -x) (pushTo c g 4, [0, 0, 0, 0]) k = ((iterF c (pushTo c g 4, [0, 0, 0, 0]) k).1, (iterF c (pushTo c g 4, [0, 0, 0, 0]) k).2.map fun x => -x)
  | 0 => rfl
  | k + 1 => by
    rw [iterF, iterF, iterF_neg hc hg k]
    have F := FI.iter c hg k
    generalize iterF c (pushTo c g 4, [0, 0, 0, 0]) k = s at *
    obtain ⟨a, ha, h0, -⟩ := F.at0
    have hlen := F.len
    have hn := hc a ha
    unfold stepF
    simp only
    rw [show (s.1.getD 0 wz).1.toNat = a by rw [h0]; simp]
    congr 1
    unfold stepY
    rw [neg_at, neg_at, List.map_set]
    congr 1
    by_cases h : c.getD a 0 < 0
    · rw [if_pos h, if_neg (by omega)]; omega
    · rw [if_neg h, if_pos (by omega)]; omega

theorem findV_neg {c : List Int} (hc : ∀ i, i < 4 → c.getD i 0 ≠ 0) {s k : Int} (h1 : findE c s k = 0) (h2 : findE (c.map fun x => -x) s k = 0) : findV (c.map fun x => -x) s k = (findV c s k).map fun x => -x := by
  unfold findV
  rw [if_pos h1, if_pos h2]
  unfold findF
  rw [pushTo_neg, iterF_neg hc (gain_fits s).1]

theorem farF_neg (c y : List Int) (g : Int) : farF (c.map fun x => -x) (y.map fun x => -x) g = farF c y g := by
  unfold farF
  simp only [neg_at, Int.neg_mul]
  have e : ∀ a b : Int, absF (-a - -b) = absF (a - b) := fun a b => by unfold absF; omega
  simp only [e]

theorem held_neg {c : List Int} (h : heldF c = true) : heldF (c.map fun x => -x) = true := by
  unfold heldF at *
  rw [List.all_eq_true] at *
  intro x hx
  obtain ⟨y, hy, rfl⟩ := List.mem_map.1 hx
  have := h y hy
  simp only [decide_eq_true_eq] at *; omega

theorem pure14 (c : List Int) (s k : Int) (hw : c.length = 4 ∧ (0 ≤ s ∧ s ≤ 255) ∧ 0 ≤ k ∧ k ≤ 255) : P14 c s k := by
  obtain ⟨hl, ⟨a1, a2⟩, b1, b2⟩ := hw
  unfold P14
  rw [w64 (n := s) (by omega) (by omega), w64 (n := k) (by omega) (by omega)]
  have d1 := tdm s (k := 16) (by decide)
  have d2 := tdm k (k := 13) (by decide)
  have hh := heldL_held c
  have hxl := heldL_len hl
  have hS : 0 ≤ s.tmod 16 ∧ s.tmod 16 ≤ 15 := by omega
  have hK : 0 ≤ k.tmod 13 ∧ k.tmod 13 ≤ 12 := by omega
  clear d1 d2
  generalize s.tmod 16 = S at *
  generalize k.tmod 13 = K at *
  generalize heldL c = x at *
  simp only [eq_self, true_and, and_true, Int.toNat_natCast, Nat.zero_add]
  refine ⟨0, ⟨⟨rfl, rfl⟩, by omega, rfl⟩, fun i hi _ => ?_⟩
  obtain ⟨hi, hz⟩ := hi
  by_cases h4 : (i : Int) < 4
  · have hi4 : i < x.length := by omega
    simp only [h4, decide_true, cond_true]
    refine ⟨⟨by omega, by omega⟩, ?_⟩
    by_cases h0 : x.getD i 0 = 0
    · simp only [h0, decide_true, cond_true]
    · have hx := heldF_at hh i
      simp only [h0, decide_false, cond_false]
      refine ⟨⟨by omega, by omega, by omega, by omega⟩, i + 1, ⟨step_i (by omega), ?_⟩, ⟨by omega, ?_⟩, by omega⟩
      · rw [w64 (by omega) (by omega), Int.zero_sub]
        refine set_step (by simpa using hi4) (by simp; omega) ?_
        simp [List.getElem?_eq_getElem hi4]
      · rw [take_snoc' 0 hi4, List.all_append, hz]; simpa using h0
  · have : i = 4 := by omega
    subst this
    simp only [h4, decide_false, cond_false]
    have eB : List.append (List.take 4 (x.map fun x => -x)) (List.drop 4 [0, 0, 0, 0]) = x.map fun x => -x := by
      show List.take 4 _ ++ _ = _
      rw [List.take_of_length_le (by simp [hxl])]; simp
    have eB' : List.take 4 (x.map fun x => -x) ++ List.drop 4 [0, 0, 0, 0] = x.map fun x => -x := eB
    have hn : ∀ i, i < 4 → x.getD i 0 ≠ 0 := by
      intro i hi
      rw [List.take_of_length_le (by omega), List.all_eq_true] at hz
      simpa using hz _ (getD_mem (d := 0) (show i < x.length by omega))
    obtain ⟨hE, F⟩ := findV_ok hh hS hK
    obtain ⟨hE2, F2⟩ := findV_ok (held_neg hh) hS hK
    have hV := findV_neg hn hE hE2
    simp only [eB, eB', hE, hE2, decide_true, cond_true, eq_self, true_and, and_true]
    refine ⟨⟨by decide, by decide⟩, 0, ⟨rfl, by omega⟩, fun j hj _ => ?_⟩
    by_cases j4 : (j : Int) < 4
    · simp only [j4, decide_true, cond_true]
      have hf := fewF_at F.few j
      rw [hV, neg_at, w64 (by omega) (by omega)]
      have : (findV x S K).getD j 0 = 0 - -(findV x S K).getD j 0 := by omega
      simp only [← this, decide_true, Bool.not_true, cond_false]
      exact ⟨⟨by omega, by omega, by omega, by omega⟩, j + 1, step_i (by omega), by omega, by omega⟩
    · simp only [j4, decide_false, cond_false]
      rintro _ rfl
      simp only [cond_true, forall_const, and_self, true_and]
      rw [distF_far hS F.few hh, distF_far hS F2.few (held_neg hh), hV, farF_neg]
      simp
end Go.SL.A

/- Functions do what they are held to do. -/
namespace Go.SL.A
open Go Go.SL Go.SL.S
theorem snd14 : Sound Go.Proofs.Try.prog G14 := snd50.add ⟨_, Go.Proofs.Try.func14, by kernel_rfl, by kernel_rfl⟩ (by
  intro args ins out h hp
  unfold sp14 at h
  split at h
  · rename_i c s k
    cases h
    exact vcFun_ok (C := C14) good snd50 methOk mix Go.Proofs.Try.func14 (ann14 c s k) (fun hw => by rw [← vc14 c s k]; exact pure14 c s k (hwL14 hw))
  · cases h)

end Go.SL.A

/- PulseTurns: the law returns true, whatever its arguments; each argument reads afterwards as before. No condition. -/
namespace Go.Proofs.Ythhfccnhkadkcaa
open Go Go.SL Go.SL.S Go.ChangeShapes Go.WideShapes Go.ChangeAt Go.WideMaps Go.WideElems Go.RowKit
set_option maxRecDepth 100000

theorem parsT : ((Go.Proofs.Try.f14.params.toList).all fun t => Nat.blt t Go.Proofs.Try.prog.types.size) = true := by kernel_rfl
theorem parsL : Go.Proofs.Try.f14.params.toList = [53, 5, 5] := by kernel_rfl
theorem law_pure : ∀ avs bls, argsOk Go.SL.A.D Go.Proofs.Try.f14.params.toList 0 avs bls → VCall Go.Proofs.Try.prog 14 avs bls ⟨[], .v .bool true, [], []⟩ := by
  rw [parsL]
  intro avs bls h
  replace h : ∃ (t : Ty) (x : t.I) (avs' : List AV), Go.SL.A.D.ty 53 = some t ∧ avs = ⟨t, x⟩ :: avs' ∧ argsOk Go.SL.A.D [5, 5] 0 avs' bls := h
  obtain ⟨t, x0, avs, ht, rfl, h⟩ := h
  obtain rfl : .arr 4 (.int .i64) = t := Option.some.inj ((show (some (.arr 4 (.int .i64)) : Option Ty) = Go.SL.A.D.ty 53 by kernel_rfl).trans ht)
  replace h : ∃ (t : Ty) (x : t.I) (avs' : List AV), Go.SL.A.D.ty 5 = some t ∧ avs = ⟨t, x⟩ :: avs' ∧ argsOk Go.SL.A.D [5] 0 avs' bls := h
  obtain ⟨t, x1, avs, ht, rfl, h⟩ := h
  obtain rfl : .int .u8 = t := Option.some.inj ((show (some (.int .u8) : Option Ty) = Go.SL.A.D.ty 5 by kernel_rfl).trans ht)
  replace h : ∃ (t : Ty) (x : t.I) (avs' : List AV), Go.SL.A.D.ty 5 = some t ∧ avs = ⟨t, x⟩ :: avs' ∧ argsOk Go.SL.A.D [] 0 avs' bls := h
  obtain ⟨t, x2, avs, ht, rfl, h⟩ := h
  obtain rfl : .int .u8 = t := Option.some.inj ((show (some (.int .u8) : Option Ty) = Go.SL.A.D.ty 5 by kernel_rfl).trans ht)
  obtain ⟨rfl, rfl⟩ : avs = [] ∧ bls = [] := h
  have q := (Go.SL.A.snd14 14 Go.SL.A.sp14 rfl).2 [⟨.arr 4 (.int .i64), x0⟩, ⟨.int .u8, x1⟩, ⟨.int .u8, x2⟩] [] _ rfl (trivial)
  exact q

theorem lifted (os : Os) (started : os.Started) (H : Type) (enc : TypeId × Value → H) :
    ReturnsInHanded {} Go.Proofs.Try.checked os 14 .any (Rows.pulseTurnsSpec.pre6 enc Go.Proofs.Try.prog Go.Proofs.Try.f14 Rows.pulseTurnsRow.domain false) (Rows.pulseTurnsSpec.post enc Go.Proofs.Try.prog Go.Proofs.Try.f14 false true false false) := by
  refine returnsInHanded_of_change (C := Go.Proofs.Try.checked) Seat.own started (by kernel_rfl) Go.Proofs.Try.func14
    (ChangeSpec.witness6 (enc := enc) (C := Go.Proofs.Try.checked) false ⟨#[], #[.agg (Array.replicate 4 (.int .i64 0)), .int .u8 0, .int .u8 0], []⟩ 8 (by kernel_rfl) (by kernel_rfl) (by kernel_rfl) (by kernel_rfl)) ?_
  intro W base args ds gs before hval hW _ _
  refine law_calls (D := Go.SL.A.D) Go.SL.A.good Seat.kids Seat.slicesFull (fun t ht => Nat.le_of_ble_eq_true (List.all_eq_true.1 parsT t ht)) (by kernel_rfl) (show Go.Proofs.Try.f14.resultTypes = #[4] by kernel_rfl) Go.Proofs.Try.underlying4 rfl (fun ds h => ?_) law_pure (fun _ _ h => by cases (show none = some _ from h)) hval hW
  have h : ds.length = 3 := h
  match ds, h with
  | [_, _, _], _ => rfl

theorem joined : joinedFacts Go.Proofs.Try.prog 14 Go.Proofs.Try.f14 Rows.pulseTurnsSpec Rows.pulseTurnsRow = true := by
  unfold joinedFacts
  exact (andT (andT (andT (andT (andT (andT (andT (andT (andT (andT (andT (andT (andT (andT (andT (andT (andT (andT (andT (andT (andT (andT (andT (andT (andT (andT (andT (andT (andT (andT (andT (by as_aux_lemma => kernel_rfl) Seat.laidOut) Seat.mapsRowed) (by as_aux_lemma => kernel_rfl)) (by as_aux_lemma => kernel_rfl)) (by as_aux_lemma => kernel_rfl)) Seat.stops) (by as_aux_lemma => kernel_rfl)) Seat.knobs) (by as_aux_lemma => kernel_rfl)) (by as_aux_lemma => kernel_rfl)) (by as_aux_lemma => kernel_rfl)) (by as_aux_lemma => kernel_rfl)) (by as_aux_lemma => kernel_rfl)) (by as_aux_lemma => kernel_rfl)) (by as_aux_lemma => kernel_rfl)) (by as_aux_lemma => kernel_rfl)) (by as_aux_lemma => kernel_rfl)) (by as_aux_lemma => kernel_rfl)) (by as_aux_lemma => kernel_rfl)) (by as_aux_lemma => kernel_rfl)) (by as_aux_lemma => kernel_rfl)) (by as_aux_lemma => kernel_rfl)) (by as_aux_lemma => kernel_rfl)) Seat.heard) Seat.mayEnter) (by rw [Seat.lifts]; rfl)) (by rw [Seat.made]; rfl)) (by as_aux_lemma => kernel_rfl)) (by as_aux_lemma => kernel_rfl)) (by as_aux_lemma => kernel_rfl)) (by as_aux_lemma => kernel_rfl))

theorem pulseTurns_holds : Rows.PulseTurnsSaid :=
  OpenClaim.holds_of_wide 14 Go.Proofs.Try.f14 rfl rfl rfl rfl rfl rfl rfl ⟨rfl, rfl, rfl, rfl, rfl⟩ rfl rfl rfl rfl rfl (by kernel_rfl) Go.Proofs.Try.func14 joined
    (of_decide_eq_true (by kernel_rfl)) (by unfold Func.isWrapper; first | (rw [if_pos (by decide +kernel)]; kernel_rfl) | (rw [if_neg (by decide +kernel)]; exact ⟨rfl, rfl⟩))
    (fun os started H enc _ => lifted os started H enc)

#print axioms pulseTurns_holds
end Go.Proofs.Ythhfccnhkadkcaa
