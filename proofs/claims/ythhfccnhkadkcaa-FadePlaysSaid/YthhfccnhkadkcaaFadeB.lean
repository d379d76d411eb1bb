/- The code of FadeScales as a plain condition, which holds. -/
import Derived.Test.YthhfccnhkadkcaaFade

/- Functions and what they are held to do: bound to their code. -/
namespace Go.SL.A
open Go Go.SL Go.SL.S
set_option maxRecDepth 100000
noncomputable def C4 : Ctx := ⟨Go.Proofs.Try.prog, D, G39, (fun _ _ => none), fun _ => []⟩
def ann4 (f : List Int) (nn : Int) (n : Nat) (l : List Int) : Nat → St → Option Ann := fun id S => match id with | 0 => some ⟨Nat, [1, 2, 3], [0], fun k => [(7, .v (.int .i64) (k : Int))], fun k => [(1, some ⟨false, true, .arr 32 (.int .i64), [(f.map remF).take k ++ f.drop k]⟩)], fun k => k ≤ 32, fun k => 32 - k⟩ | 2 => some ⟨Nat, [1, 2, 3, 8, 9, 10], [0, 1, 2, 3], fun k => [(11, .v (.int .i64) (k : Int))], fun _ => [], fun k => k ≤ 32, fun k => 32 - k⟩ | _ => some ⟨Nat, [2, 12, 13], [0, 4, 5], fun k => [(14, .v (.int .i64) (k : Int))], fun _ => [], fun k => k ≤ l.length, fun k => l.length - k⟩
def sp4 : Spec := fun args ins => match args, ins with
  | [⟨.arr 32 (.int .i64), f⟩, ⟨.int .u8, nn⟩, ⟨.ref .slice, .slice 0 (.int .i64) [] 0 n⟩], [⟨true, false, .int .i64, l⟩] => some ⟨[n = l.length], .v .bool true, [], []⟩
  | _, _ => none
def G4 := addG G39 4 sp4
def P4 (f : List Int) (nn : Int) (n : Nat) (l : List Int) : Prop :=
  ∀ (b : Bool), false = b → (((!b) = true → (!b) = true) ∧ ((!b) = true → (!b) = true) ∧ (b = false → (!b) = true)) ∧ bif bif b then true else decide ((1000 : Int) < (↑n : Int)) then true = true ∧ l = l ∧ true = true else ∃
  (x : Nat), ((nn = nn ∧ (0 : Nat) = (0 : Nat) ∧ n = n ∧ (0 : Nat) = (0 : Nat) ∧ (0 : Int) = (↑x : Int) ∧ l = l ∧ true = true ∧ f = List.take x (List.map remF f) ++ List.drop x f ∧ false = false) ∧ x ≤ (32 : Nat)) ∧ ∀ (x :
  Nat), x ≤ (32 : Nat) → (IntKind.min IntKind.i64 ≤ (↑x : Int) ∧ (↑x : Int) ≤ IntKind.max IntKind.i64 ∧ ∀ (y : List Int), List.Mem y [List.take x (List.map remF f) ++ List.drop x f] → List.length y = (32 : Nat) ∧ ∀ (y_1 :
  Int), List.Mem y_1 y → IntKind.min IntKind.i64 ≤ y_1 ∧ y_1 ≤ IntKind.max IntKind.i64) → bif decide ((↑x : Int) < (32 : Int)) then (((0 : Int) ≤ (↑x : Int) ∧ (↑x : Int) < (↑(32 : Nat) : Int)) ∧ Int.toNat (↑x : Int) < (32 :
  Nat) ∧ (1099511627776 : Int) ≠ (0 : Int) ∧ ((0 : Int) ≤ (↑x : Int) ∧ (↑x : Int) < (↑(32 : Nat) : Int)) ∧ Int.toNat (↑x : Int) < (32 : Nat)) ∧ ∃ (y : Nat), (nn = nn ∧ (0 : Nat) = (0 : Nat) ∧ n = n ∧ (0 : Nat) = (0 : Nat) ∧
  IntKind.wrap IntKind.i64 ((↑x : Int) + (1 : Int)) = (↑y : Int) ∧ l = l ∧ true = true ∧ List.set (List.take x (List.map remF f) ++ List.drop x f) (Int.toNat (↑x : Int)) (Int.tmod (List.getD (List.take x (List.map remF f)
  ++ List.drop x f) (Int.toNat (↑x : Int)) (0 : Int)) (1099511627776 : Int)) = List.take y (List.map remF f) ++ List.drop y f ∧ false = false) ∧ y ≤ (32 : Nat) ∧ (32 : Nat) - y < (32 : Nat) - x else (8 : Int) ≠ (0 : Int) ∧
  ∃ (x_1 : Nat), ((nn = nn ∧ (0 : Nat) = (0 : Nat) ∧ n = n ∧ (0 : Nat) = (0 : Nat) ∧ Int.tmod (IntKind.wrap IntKind.i64 nn) (8 : Int) = Int.tmod (IntKind.wrap IntKind.i64 nn) (8 : Int) ∧ (0 : Nat) = (0 : Nat) ∧ (0 : Nat) =
  (0 : Nat) ∧ (0 : Int) = (↑x_1 : Int) ∧ l = l ∧ true = true ∧ List.append (List.take x (List.map remF f)) (List.drop x f) = List.take x (List.map remF f) ++ List.drop x f ∧ false = false ∧ scaleF (List.take x (List.map
  remF f) ++ List.drop x f) (Int.tmod (IntKind.wrap IntKind.i64 nn) (8 : Int)) = scaleF (List.take x (List.map remF f) ++ List.drop x f) (Int.tmod (IntKind.wrap IntKind.i64 nn) (8 : Int)) ∧ false = false ∧ scaleF (List.take
  x (List.map remF f) ++ List.drop x f) (IntKind.wrap IntKind.i64 (Int.tmod (IntKind.wrap IntKind.i64 nn) (8 : Int) + (1 : Int))) = scaleF (List.take x (List.map remF f) ++ List.drop x f) (IntKind.wrap IntKind.i64 (Int.tmod
  (IntKind.wrap IntKind.i64 nn) (8 : Int) + (1 : Int))) ∧ false = false) ∧ x_1 ≤ (32 : Nat)) ∧ ∀ (x_2 : Nat), x_2 ≤ (32 : Nat) → IntKind.min IntKind.i64 ≤ (↑x_2 : Int) ∧ (↑x_2 : Int) ≤ IntKind.max IntKind.i64 → bif decide
  ((↑x_2 : Int) < (32 : Int)) then ∀ (b : Bool), decide (sizeF (List.getD (scaleF (List.take x (List.map remF f) ++ List.drop x f) (Int.tmod (IntKind.wrap IntKind.i64 nn) (8 : Int))) (Int.toNat (↑x_2 : Int)) (0 : Int)) <
  sizeF (List.getD (scaleF (List.take x (List.map remF f) ++ List.drop x f) (IntKind.wrap IntKind.i64 (Int.tmod (IntKind.wrap IntKind.i64 nn) (8 : Int) + (1 : Int)))) (Int.toNat (↑x_2 : Int)) (0 : Int))) = b → ∀ (b_1 :
  Bool), decide ((4 : Int) ≤ Int.tmod (IntKind.wrap IntKind.i64 nn) (8 : Int)) = b_1 → (((0 : Int) ≤ (↑x_2 : Int) ∧ (↑x_2 : Int) < (↑(32 : Nat) : Int)) ∧ Int.toNat (↑x_2 : Int) < (32 : Nat) ∧ ((0 : Int) ≤ (↑x_2 : Int) ∧
  (↑x_2 : Int) < (↑(32 : Nat) : Int)) ∧ Int.toNat (↑x_2 : Int) < (32 : Nat) ∧ ((!b) = true → (!b) = true) ∧ ((!b && !b && b_1) = true → (!b && !b && b_1) = true ∧ (0 : Int) ≤ (↑x_2 : Int) ∧ (↑x_2 : Int) < (↑(32 : Nat) :
  Int)) ∧ ((!b && !b && b_1) = true → (!b && !b && b_1) = true ∧ Int.toNat (↑x_2 : Int) < (32 : Nat)) ∧ ((!b && !b && b_1) = true → (!b && !b && b_1) = true) ∧ ((!b) = true → (!b && !b) = true ∧ (b_1 = true → (!b && !b &&
  b_1) = true)) ∧ (b = false → (!b) = true)) ∧ bif bif b then true else bif b_1 then !decide (List.getD (scaleF (List.take x (List.map remF f) ++ List.drop x f) (Int.tmod (IntKind.wrap IntKind.i64 nn) (8 : Int))) (Int.toNat
  (↑x_2 : Int)) (0 : Int) = (0 : Int)) else false then false = true ∧ l = l ∧ true = true else ∃ (y : Nat), (nn = nn ∧ (0 : Nat) = (0 : Nat) ∧ n = n ∧ (0 : Nat) = (0 : Nat) ∧ Int.tmod (IntKind.wrap IntKind.i64 nn) (8 : Int)
  = Int.tmod (IntKind.wrap IntKind.i64 nn) (8 : Int) ∧ (0 : Nat) = (0 : Nat) ∧ (0 : Nat) = (0 : Nat) ∧ IntKind.wrap IntKind.i64 ((↑x_2 : Int) + (1 : Int)) = (↑y : Int) ∧ l = l ∧ true = true ∧ List.append (List.take x
  (List.map remF f)) (List.drop x f) = List.take x (List.map remF f) ++ List.drop x f ∧ false = false ∧ scaleF (List.take x (List.map remF f) ++ List.drop x f) (Int.tmod (IntKind.wrap IntKind.i64 nn) (8 : Int)) = scaleF
  (List.take x (List.map remF f) ++ List.drop x f) (Int.tmod (IntKind.wrap IntKind.i64 nn) (8 : Int)) ∧ false = false ∧ scaleF (List.take x (List.map remF f) ++ List.drop x f) (IntKind.wrap IntKind.i64 (Int.tmod
  (IntKind.wrap IntKind.i64 nn) (8 : Int) + (1 : Int))) = scaleF (List.take x (List.map remF f) ++ List.drop x f) (IntKind.wrap IntKind.i64 (Int.tmod (IntKind.wrap IntKind.i64 nn) (8 : Int) + (1 : Int))) ∧ false = false) ∧
  y ≤ (32 : Nat) ∧ (32 : Nat) - y < (32 : Nat) - x_2 else (n = List.length l ∧ n ≤ (1000000 : Nat)) ∧ (n = List.length (cutF l) ∧ n ≤ (1000000 : Nat)) ∧ ∃ (x : Nat), (((0 : Nat) = (0 : Nat) ∧ n = n ∧ (0 : Nat) = (0 : Nat) ∧
  n = n ∧ (0 : Nat) = (0 : Nat) ∧ n = n ∧ (0 : Int) = (↑x : Int) ∧ l = l ∧ true = true ∧ cutF l = cutF l ∧ false = false ∧ cutF (cutF l) = cutF (cutF l) ∧ false = false) ∧ x ≤ List.length l) ∧ ∀ (x : Nat), x ≤ List.length l
  → IntKind.min IntKind.i64 ≤ (↑x : Int) ∧ (↑x : Int) ≤ IntKind.max IntKind.i64 → bif decide ((↑x : Int) < (↑n : Int)) then ∀ (b : Bool), (!decide ((↑n : Int) = (↑n : Int))) = b → ∀ (b_1 : Bool), (bif b then true else
  !decide (List.getD (cutF (cutF l)) ((0 : Nat) + Int.toNat (↑x : Int)) (0 : Int) = List.getD (cutF l) ((0 : Nat) + Int.toNat (↑x : Int)) (0 : Int))) = b_1 → ∀ (b_2 : Bool), (bif b_1 then true else decide (List.getD (cutF
  l) ((0 : Nat) + Int.toNat (↑x : Int)) (0 : Int) < (-32768 : Int))) = b_2 → (((!b) = true → (!b) = true ∧ (!b) = true ∧ (0 : Int) ≤ (↑x : Int) ∧ (↑x : Int) < (↑n : Int)) ∧ ((!b) = true → (!b) = true ∧ (0 : Nat) + Int.toNat
  (↑x : Int) < List.length (cutF (cutF l))) ∧ ((!b) = true → (!b) = true ∧ (!b) = true ∧ (0 : Int) ≤ (↑x : Int) ∧ (↑x : Int) < (↑n : Int)) ∧ ((!b) = true → (!b) = true ∧ (0 : Nat) + Int.toNat (↑x : Int) < List.length (cutF
  l)) ∧ ((!b) = true → (!b) = true ∧ (!b) = true) ∧ (b = false → (!b) = true) ∧ ((!b_1) = true → (!b_1) = true ∧ (!b_1) = true ∧ (0 : Int) ≤ (↑x : Int) ∧ (↑x : Int) < (↑n : Int)) ∧ ((!b_1) = true → (!b_1) = true ∧ (0 : Nat)
  + Int.toNat (↑x : Int) < List.length (cutF l)) ∧ ((!b_1) = true → (!b_1) = true) ∧ (b_1 = false → (!b_1) = true) ∧ ((!b_2) = true → (!b_2) = true ∧ (!b_2) = true ∧ (0 : Int) ≤ (↑x : Int) ∧ (↑x : Int) < (↑n : Int)) ∧
  ((!b_2) = true → (!b_2) = true ∧ (0 : Nat) + Int.toNat (↑x : Int) < List.length (cutF l)) ∧ ((!b_2) = true → (!b_2) = true) ∧ (b_2 = false → (!b_2) = true)) ∧ bif bif b_2 then true else decide ((32767 : Int) < List.getD
  (cutF l) ((0 : Nat) + Int.toNat (↑x : Int)) (0 : Int)) then false = true ∧ l = l ∧ true = true else ∃ (y : Nat), ((0 : Nat) = (0 : Nat) ∧ n = n ∧ (0 : Nat) = (0 : Nat) ∧ n = n ∧ (0 : Nat) = (0 : Nat) ∧ n = n ∧
  IntKind.wrap IntKind.i64 ((↑x : Int) + (1 : Int)) = (↑y : Int) ∧ l = l ∧ true = true ∧ cutF l = cutF l ∧ false = false ∧ cutF (cutF l) = cutF (cutF l) ∧ false = false) ∧ y ≤ List.length l ∧ List.length l - y < List.length
  l - x else decide ((↑n : Int) = (↑n : Int)) = true ∧ l = l ∧ true = true
theorem vc4 (f : List Int) (nn : Int) (n : Nat) (l : List Int) : P4 f nn n l = vcFun C4 (ann4 f nn n l) Go.Proofs.Try.f4 [⟨.arr 32 (.int .i64), f⟩, ⟨.int .u8, nn⟩, ⟨.ref .slice, .slice 0 (.int .i64) [] 0 n⟩] [⟨true, false, .int .i64, l⟩] ⟨[n = l.length], .v .bool true, [], []⟩ := by kernel_rfl

end Go.SL.A

namespace Go.SL.A
open Go Go.SL Go.SL.S

/-- One number of a frame, of the n-th that is missing. -/
def ent (n x : Int) : Int := if n < 1 then x else scale1 n x

theorem scaleF_ent (g : List Int) (n : Int) : scaleF g n = g.map (ent n) := by
  unfold scaleF ent
  split <;> simp [*]

theorem scaleF_getD {g : List Int} {n : Int} {j : Nat} (h : j < g.length) : (scaleF g n).getD j 0 = ent n (g.getD j 0) := by
  rw [scaleF_ent]; simp [h]

theorem sc1 (x : Int) : scale1 1 x = 3 * x.tdiv 4 + (3 * x.tmod 4).tdiv 4 := rfl
theorem sc2 (x : Int) : scale1 2 x = 2 * x.tdiv 4 + (2 * x.tmod 4).tdiv 4 := rfl
theorem sc3 (x : Int) : scale1 3 x = 1 * x.tdiv 4 + (1 * x.tmod 4).tdiv 4 := rfl
theorem sc4 {n x : Int} (h : 4 ≤ n) : scale1 n x = 0 := by
  unfold scale1
  have : max (4 - n) 0 = 0 := by omega
  rw [this, if_neg (by omega)]; omega

/-- One number that is no greater in size than another one, of its sign. -/
def within (a b : Int) : Prop := (0 ≤ b → 0 ≤ a ∧ a ≤ b) ∧ (b ≤ 0 → a ≤ 0 ∧ b ≤ a)

theorem wi01 (x : Int) : within (scale1 1 x) x := by
  have d1 := tdm x (k := 4) (by decide)
  have d2 := tdm (3 * x.tmod 4) (k := 4) (by decide)
  rw [sc1]; unfold within
  generalize x.tdiv 4 = q at *
  generalize x.tmod 4 = r at *
  generalize (3 * r).tdiv 4 = s at *
  omega
theorem wi12 (x : Int) : within (scale1 2 x) (scale1 1 x) := by
  have d1 := tdm x (k := 4) (by decide)
  have d2 := tdm (3 * x.tmod 4) (k := 4) (by decide)
  have d3 := tdm (2 * x.tmod 4) (k := 4) (by decide)
  rw [sc1, sc2]; unfold within
  generalize x.tdiv 4 = q at *
  generalize x.tmod 4 = r at *
  have hr : r = -3 ∨ r = -2 ∨ r = -1 ∨ r = 0 ∨ r = 1 ∨ r = 2 ∨ r = 3 := by omega
  rcases hr with rfl | rfl | rfl | rfl | rfl | rfl | rfl <;> simp at * <;> omega
theorem wi23 (x : Int) : within (scale1 3 x) (scale1 2 x) := by
  have d1 := tdm x (k := 4) (by decide)
  have d2 := tdm (1 * x.tmod 4) (k := 4) (by decide)
  have d3 := tdm (2 * x.tmod 4) (k := 4) (by decide)
  rw [sc2, sc3]; unfold within
  generalize x.tdiv 4 = q at *
  generalize x.tmod 4 = r at *
  have hr : r = -3 ∨ r = -2 ∨ r = -1 ∨ r = 0 ∨ r = 1 ∨ r = 2 ∨ r = 3 := by omega
  rcases hr with rfl | rfl | rfl | rfl | rfl | rfl | rfl <;> simp at * <;> omega
theorem wi0 (x : Int) : within 0 x := by unfold within; omega
theorem wiR (x : Int) : within x x := by unfold within; omega
theorem wiT {a b c : Int} (h : within a b) (h' : within b c) : within a c := by unfold within at *; omega

theorem ent_wi {k : Int} (x : Int) (h0 : 0 ≤ k) : within (ent (k + 1) x) (ent k x) ∧ within (ent k x) x ∧ (4 ≤ k → ent k x = 0) := by
  have e2 : ent (k + 1) x = scale1 (k + 1) x := by unfold ent; rw [if_neg (by omega)]
  rw [e2]
  have hk : k = 0 ∨ k = 1 ∨ k = 2 ∨ k = 3 ∨ 4 ≤ k := by omega
  rcases hk with rfl | rfl | rfl | rfl | hk
  · exact ⟨wi01 x, wiR x, fun h => absurd h (by decide)⟩
  · exact ⟨wi12 x, wi01 x, fun h => absurd h (by decide)⟩
  · exact ⟨wi23 x, wiT (wi12 x) (wi01 x), fun h => absurd h (by decide)⟩
  · refine ⟨?_, wiT (wi23 x) (wiT (wi12 x) (wi01 x)), fun h => absurd h (by decide)⟩
    rw [sc4 (by decide)]; exact wi0 _
  · have e1 : ent k x = 0 := by unfold ent; rw [if_neg (by omega)]; exact sc4 hk
    rw [e1, sc4 (by omega)]
    exact ⟨wi0 _, wi0 _, fun _ => rfl⟩

theorem ent_sz {k x : Int} (h0 : 0 ≤ k) (hx1 : -1099511627776 < x) (hx2 : x < 1099511627776) :
    ¬ sizeF (ent k x) < sizeF (ent (k + 1) x) ∧ (4 ≤ k → ent k x = 0) ∧ -1099511627776 < ent k x ∧ ent k x < 1099511627776 := by
  obtain ⟨h1, h2, h3⟩ := ent_wi x h0
  generalize ent k x = a at *
  generalize ent (k + 1) x = b at *
  unfold within at h1 h2
  refine ⟨?_, h3, by omega, by omega⟩
  unfold sizeF
  rw [w64 (n := 0 - a) (by omega) (by omega), w64 (n := 0 - b) (by omega) (by omega)]
  omega

theorem cut1_le (x : Int) : -32768 ≤ cut1 x ∧ cut1 x ≤ 32767 ∧ cut1 (cut1 x) = cut1 x := by
  unfold cut1; omega

theorem pure4 (f : List Int) (nn : Int) (n : Nat) (l : List Int) (hn : n = l.length) (hf : f.length = 32 ∧ 0 ≤ nn ∧ nn ≤ 255) : P4 f nn n l := by
  subst hn
  obtain ⟨hfl, hn0, hn1⟩ := hf
  unfold P4
  rintro _ rfl
  refine ⟨by simp, ?_⟩
  by_cases hl : (1000 : Int) < (l.length : Int)
  · simp [hl]
  simp only [hl, decide_false, cond_false, eq_self, true_and, and_true, Int.toNat_natCast, Nat.zero_add, decide_true, Bool.not_true]
  have hwn : IntKind.i64.wrap nn = nn := w64 (by omega) (by omega)
  rw [hwn]
  have hk := tdm nn (k := 8) (by decide)
  generalize nn.tmod 8 = kk at *
  refine ⟨0, ⟨by simp, by simp⟩, fun k hk2 _ => ?_⟩
  by_cases h : (k : Int) < 32
  · have hw : IntKind.i64.wrap ((k : Int) + 1) = ((k + 1 : Nat) : Int) := by rw [w64 (by omega) (by omega)]; simp
    simp only [h, decide_true, cond_true]
    have hkf : k < f.length := by omega
    refine ⟨by simp; omega, k + 1, ⟨hw, ?_⟩, by omega, by omega⟩
    have e : (List.take k (f.map remF) ++ List.drop k f).getD k 0 = f.getD k 0 := by
      have hmin : min k f.length = k := by omega
      rw [List.getD_eq_getElem?_getD, List.getElem?_append_right (by simp; omega), List.getElem?_drop]
      simp [hmin]
    rw [e]
    exact set_step (by simp; omega) hkf (by simp [remF, hkf])
  have : k = 32 := by omega
  subst this
  simp only [h, decide_false, cond_false]
  have eg : List.take 32 (f.map remF) ++ List.drop 32 f = f.map remF := by
    rw [List.drop_eq_nil_of_le (by omega), List.append_nil, List.take_of_length_le (by simp [hfl])]
  have eg2 : List.append (List.take 32 (f.map remF)) (List.drop 32 f) = f.map remF := eg
  rw [eg, eg2]
  have hwk : IntKind.i64.wrap (kk + 1) = kk + 1 := w64 (by omega) (by omega)
  rw [hwk]
  refine ⟨by decide, 0, ⟨by simp, by simp⟩, fun j hj _ => ?_⟩
  by_cases hj2 : (j : Int) < 32
  · have hw : IntKind.i64.wrap ((j : Int) + 1) = ((j + 1 : Nat) : Int) := by rw [w64 (by omega) (by omega)]; simp
    have hjl : j < (f.map remF).length := by simp; omega
    have hb : -1099511627776 < (f.map remF).getD j 0 ∧ (f.map remF).getD j 0 < 1099511627776 := by
      have := getD_mem (d := 0) hjl
      obtain ⟨z, _, hz⟩ := List.mem_map.1 this
      rw [← hz]; exact remF_fits z
    simp only [hj2, decide_true, cond_true, scaleF_getD hjl]
    obtain ⟨v, hv⟩ : ∃ v, (f.map remF).getD j 0 = v := ⟨_, rfl⟩
    rw [hv] at hb
    obtain ⟨q1, q2, _, _⟩ := ent_sz (k := kk) (x := v) (by omega) hb.1 hb.2
    simp only [hv]
    rintro b hb b1 hb1
    have h0 : b = false := by rw [← hb]; simpa using q1
    subst h0
    have h1 : (bif false then true else bif b1 then !decide (ent kk v = 0) else false) = false := by
      rw [← hb1]; simp; exact q2
    rw [h1]
    exact ⟨by simp [hj2, show j < 32 by omega], j + 1, ⟨hw, trivial⟩, by omega, by omega⟩
  have : j = 32 := by omega
  subst this
  simp only [hj2, decide_false, cond_false]
  have hcl : (cutF l).length = l.length := by simp [cutF]
  have hcl2 : (cutF (cutF l)).length = l.length := by simp [cutF]
  refine ⟨by omega, ⟨by rw [hcl], by omega⟩, 0, ⟨by simp, by simp⟩, fun i hi _ => ?_⟩
  by_cases hi2 : (i : Int) < (l.length : Int)
  · have hw : IntKind.i64.wrap ((i : Int) + 1) = ((i + 1 : Nat) : Int) := by rw [w64 (by omega) (by omega)]; simp
    have hil : i < l.length := by omega
    have e1 : (cutF l).getD i 0 = cut1 (l.getD i 0) := by simp [cutF, hil]
    have e2 : (cutF (cutF l)).getD i 0 = cut1 (cut1 (l.getD i 0)) := by simp [cutF, hil]
    simp only [hi2, decide_true, cond_true, e1, e2]
    obtain ⟨v, hv⟩ : ∃ v, l.getD i 0 = v := ⟨_, rfl⟩
    obtain ⟨c1, c2, c3⟩ := cut1_le v
    simp only [hv, c3]
    have h1 : decide (cut1 v < -32768) = false := by simp; omega
    have h2 : decide (32767 < cut1 v) = false := by simp; omega
    simp only [h1, h2, decide_true, Bool.not_true, cond_false]
    rintro _ rfl _ rfl _ rfl
    simp only [cond_false, hcl, hcl2]
    exact ⟨by simp [hil, hi2], i + 1, hw, by omega, by omega⟩
  · simp only [hi2, decide_false, cond_false]

theorem hw4 {f : List Int} {nn : Int} {n : Nat} {l : List Int} (hw : allP (List.flatMap (fun a : AV => a.t.wf a.x) [⟨.arr 32 (.int .i64), f⟩, ⟨.int .u8, nn⟩, ⟨.ref .slice, .slice 0 (.int .i64) [] 0 n⟩] ++ List.flatMap Blk.wf [⟨true, false, .int .i64, l⟩])) :
    f.length = 32 ∧ 0 ≤ nn ∧ nn ≤ 255 := by
  simp only [List.flatMap_cons, List.flatMap_nil, Ty.wf, Blk.wf, List.append_nil, List.cons_append, List.nil_append, allP] at hw
  exact ⟨hw.1, hw.2.2.1, hw.2.2.2.1⟩

end Go.SL.A
