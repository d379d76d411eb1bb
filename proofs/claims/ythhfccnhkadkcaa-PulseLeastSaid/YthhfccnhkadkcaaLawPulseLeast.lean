/- PulseLeast returns true, whatever its arguments, which read afterwards as before: no condition. -/
import Derived.Test.YthhfccnhkadkcaaRows
import Derived.Test.YthhfccnhkadkcaaPulse
import Derived.Test.YthhfccnhkadkcaaKb
import Derived.Test.YthhfccnhkadkcaaT

/- Functions and what they are held to do: bound to their code. -/
namespace Go.SL.A
open Go Go.SL Go.SL.S
set_option maxRecDepth 100000
noncomputable def C20 : Ctx := ⟨Go.Proofs.Try.prog, D, G50, meth14, fun _ => []⟩
def ann20 (c : List Int) (s k i : Int) : Nat → St → Option Ann := fun id S => some ⟨Nat, [9, 10, 12, 14, 16], [1, 2, 3], fun j => [(17, .v (.int .i64) (j : Int))], fun j => [(4, some ⟨false, true, .arr 4 (.int .i64), [(vecF 4 (k.tmod 13) (i.tmod (countF 4 (k.tmod 13)))).take j ++ [0, 0, 0, 0].drop j]⟩)], fun j => j ≤ 4, fun j => 4 - j⟩
def out20 (c : List Int) (s k i : Int) : COut := ⟨[], .v .bool true, [], []⟩
def sp20 : Spec := fun args ins => match args, ins with
  | [⟨.arr 4 (.int .i64), c⟩, ⟨.int .u8, s⟩, ⟨.int .u8, k⟩, ⟨.int .u32, i⟩], [] => some (out20 c s k i)
  | _, _ => none
def G20 := addG G50 20 sp20
def P20 (c : List Int) (s k i : Int) : Prop :=
  ((16 : Int) ≠ (0 : Int) ∧ (13 : Int) ≠ (0 : Int)) ∧ bif !decide (findE (heldL c) (Int.tmod (IntKind.wrap IntKind.i64 s) (16 : Int)) (Int.tmod (IntKind.wrap IntKind.i64 k) (13 : Int)) = (0 : Int)) then (true = false →
  false = true) ∧ false = true else ((4 : Nat) ≤ (9223372036854775807 : Nat) ∧ (4 : Nat) = List.length (findV (heldL c) (Int.tmod (IntKind.wrap IntKind.i64 s) (16 : Int)) (Int.tmod (IntKind.wrap IntKind.i64 k) (13 : Int))))
  ∧ bif !decide (pulsesF (findV (heldL c) (Int.tmod (IntKind.wrap IntKind.i64 s) (16 : Int)) (Int.tmod (IntKind.wrap IntKind.i64 k) (13 : Int))) = Int.tmod (IntKind.wrap IntKind.i64 k) (13 : Int)) then false = true else
  countF (4 : Int) (Int.tmod (IntKind.wrap IntKind.i64 k) (13 : Int)) ≠ (0 : Int) ∧ bif !decide (vecE (4 : Int) (Int.tmod (IntKind.wrap IntKind.i64 k) (13 : Int)) (Int.tmod (IntKind.wrap IntKind.i64 i) (countF (4 : Int)
  (Int.tmod (IntKind.wrap IntKind.i64 k) (13 : Int)))) = (0 : Int)) then false = true else ∃ (x : Nat), (((0 : Nat) = (0 : Nat) ∧ Int.tmod (IntKind.wrap IntKind.i64 s) (16 : Int) = Int.tmod (IntKind.wrap IntKind.i64 s) (16
  : Int) ∧ (0 : Nat) = (0 : Nat) ∧ (0 : Nat) = (0 : Nat) ∧ List.length (vecF (4 : Int) (Int.tmod (IntKind.wrap IntKind.i64 k) (13 : Int)) (Int.tmod (IntKind.wrap IntKind.i64 i) (countF (4 : Int) (Int.tmod (IntKind.wrap
  IntKind.i64 k) (13 : Int))))) = List.length (vecF (4 : Int) (Int.tmod (IntKind.wrap IntKind.i64 k) (13 : Int)) (Int.tmod (IntKind.wrap IntKind.i64 i) (countF (4 : Int) (Int.tmod (IntKind.wrap IntKind.i64 k) (13 : Int)))))
  ∧ (0 : Nat) = (0 : Nat) ∧ (0 : Int) = (↑x : Int) ∧ heldL c = heldL c ∧ false = false ∧ findV (heldL c) (Int.tmod (IntKind.wrap IntKind.i64 s) (16 : Int)) (Int.tmod (IntKind.wrap IntKind.i64 k) (13 : Int)) = findV (heldL
  c) (Int.tmod (IntKind.wrap IntKind.i64 s) (16 : Int)) (Int.tmod (IntKind.wrap IntKind.i64 k) (13 : Int)) ∧ false = false ∧ vecF (4 : Int) (Int.tmod (IntKind.wrap IntKind.i64 k) (13 : Int)) (Int.tmod (IntKind.wrap
  IntKind.i64 i) (countF (4 : Int) (Int.tmod (IntKind.wrap IntKind.i64 k) (13 : Int)))) = vecF (4 : Int) (Int.tmod (IntKind.wrap IntKind.i64 k) (13 : Int)) (Int.tmod (IntKind.wrap IntKind.i64 i) (countF (4 : Int) (Int.tmod
  (IntKind.wrap IntKind.i64 k) (13 : Int)))) ∧ false = false ∧ (0 : Int) :: List.replicate (nat_lit 3) (0 : Int) = List.take x (vecF (4 : Int) (Int.tmod k (13 : Int)) (Int.tmod i (countF (4 : Int) (Int.tmod k (13 : Int)))))
  ++ List.drop x [(0 : Int), (0 : Int), (0 : Int), (0 : Int)] ∧ false = false) ∧ x ≤ (4 : Nat)) ∧ ∀ (x : Nat), x ≤ (4 : Nat) → (IntKind.min IntKind.i64 ≤ (↑x : Int) ∧ (↑x : Int) ≤ IntKind.max IntKind.i64 ∧ ∀ (y : List Int),
  List.Mem y [List.take x (vecF (4 : Int) (Int.tmod k (13 : Int)) (Int.tmod i (countF (4 : Int) (Int.tmod k (13 : Int))))) ++ List.drop x [(0 : Int), (0 : Int), (0 : Int), (0 : Int)]] → List.length y = (4 : Nat) ∧ ∀ (y_1 :
  Int), List.Mem y_1 y → IntKind.min IntKind.i64 ≤ y_1 ∧ y_1 ≤ IntKind.max IntKind.i64) → bif decide ((↑x : Int) < (4 : Int)) then (((0 : Int) ≤ (↑x : Int) ∧ (↑x : Int) < (↑(List.length (vecF (4 : Int) (Int.tmod
  (IntKind.wrap IntKind.i64 k) (13 : Int)) (Int.tmod (IntKind.wrap IntKind.i64 i) (countF (4 : Int) (Int.tmod (IntKind.wrap IntKind.i64 k) (13 : Int)))))) : Int)) ∧ (0 : Nat) + Int.toNat (↑x : Int) < List.length (vecF (4 :
  Int) (Int.tmod (IntKind.wrap IntKind.i64 k) (13 : Int)) (Int.tmod (IntKind.wrap IntKind.i64 i) (countF (4 : Int) (Int.tmod (IntKind.wrap IntKind.i64 k) (13 : Int))))) ∧ ((0 : Int) ≤ (↑x : Int) ∧ (↑x : Int) < (↑(4 : Nat) :
  Int)) ∧ Int.toNat (↑x : Int) < (4 : Nat)) ∧ ∀ (b : Bool), (!decide (List.getD (findV (heldL c) (Int.tmod (IntKind.wrap IntKind.i64 s) (16 : Int)) (Int.tmod (IntKind.wrap IntKind.i64 k) (13 : Int))) (Int.toNat (↑x : Int))
  (0 : Int) = (0 : Int))) = b → (((0 : Int) ≤ (↑x : Int) ∧ (↑x : Int) < (↑(4 : Nat) : Int)) ∧ Int.toNat (↑x : Int) < (4 : Nat) ∧ (b = true → b = true ∧ (0 : Int) ≤ (↑x : Int) ∧ (↑x : Int) < (↑(4 : Nat) : Int)) ∧ (b = true →
  b = true ∧ Int.toNat (↑x : Int) < (4 : Nat)) ∧ (b = true → b = true) ∧ (b = true → b = true ∧ (0 : Int) ≤ (↑x : Int) ∧ (↑x : Int) < (↑(4 : Nat) : Int)) ∧ (b = true → b = true ∧ Int.toNat (↑x : Int) < (4 : Nat)) ∧ (b =
  true → b = true) ∧ (b = true → b = true ∧ b = true) ∧ (b = true → b = true)) ∧ bif bif b then !decide (List.getD (findV (heldL c) (Int.tmod (IntKind.wrap IntKind.i64 s) (16 : Int)) (Int.tmod (IntKind.wrap IntKind.i64 k)
  (13 : Int))) (Int.toNat (↑x : Int)) (0 : Int) < (0 : Int)) == decide (List.getD (heldL c) (Int.toNat (↑x : Int)) (0 : Int) < (0 : Int)) else false then false = true else ∃ (y : Nat), ((0 : Nat) = (0 : Nat) ∧ Int.tmod
  (IntKind.wrap IntKind.i64 s) (16 : Int) = Int.tmod (IntKind.wrap IntKind.i64 s) (16 : Int) ∧ (0 : Nat) = (0 : Nat) ∧ (0 : Nat) = (0 : Nat) ∧ List.length (vecF (4 : Int) (Int.tmod (IntKind.wrap IntKind.i64 k) (13 : Int))
  (Int.tmod (IntKind.wrap IntKind.i64 i) (countF (4 : Int) (Int.tmod (IntKind.wrap IntKind.i64 k) (13 : Int))))) = List.length (vecF (4 : Int) (Int.tmod (IntKind.wrap IntKind.i64 k) (13 : Int)) (Int.tmod (IntKind.wrap
  IntKind.i64 i) (countF (4 : Int) (Int.tmod (IntKind.wrap IntKind.i64 k) (13 : Int))))) ∧ (0 : Nat) = (0 : Nat) ∧ IntKind.wrap IntKind.i64 ((↑x : Int) + (1 : Int)) = (↑y : Int) ∧ heldL c = heldL c ∧ false = false ∧ findV
  (heldL c) (Int.tmod (IntKind.wrap IntKind.i64 s) (16 : Int)) (Int.tmod (IntKind.wrap IntKind.i64 k) (13 : Int)) = findV (heldL c) (Int.tmod (IntKind.wrap IntKind.i64 s) (16 : Int)) (Int.tmod (IntKind.wrap IntKind.i64 k)
  (13 : Int)) ∧ false = false ∧ vecF (4 : Int) (Int.tmod (IntKind.wrap IntKind.i64 k) (13 : Int)) (Int.tmod (IntKind.wrap IntKind.i64 i) (countF (4 : Int) (Int.tmod (IntKind.wrap IntKind.i64 k) (13 : Int)))) = vecF (4 :
  Int) (Int.tmod (IntKind.wrap IntKind.i64 k) (13 : Int)) (Int.tmod (IntKind.wrap IntKind.i64 i) (countF (4 : Int) (Int.tmod (IntKind.wrap IntKind.i64 k) (13 : Int)))) ∧ false = false ∧ List.set (List.take x (vecF (4 : Int)
  (Int.tmod k (13 : Int)) (Int.tmod i (countF (4 : Int) (Int.tmod k (13 : Int))))) ++ List.drop x [(0 : Int), (0 : Int), (0 : Int), (0 : Int)]) (Int.toNat (↑x : Int)) (List.getD (vecF (4 : Int) (Int.tmod (IntKind.wrap
  IntKind.i64 k) (13 : Int)) (Int.tmod (IntKind.wrap IntKind.i64 i) (countF (4 : Int) (Int.tmod (IntKind.wrap IntKind.i64 k) (13 : Int))))) ((0 : Nat) + Int.toNat (↑x : Int)) (0 : Int)) = List.take y (vecF (4 : Int)
  (Int.tmod k (13 : Int)) (Int.tmod i (countF (4 : Int) (Int.tmod k (13 : Int))))) ++ List.drop y [(0 : Int), (0 : Int), (0 : Int), (0 : Int)] ∧ false = false) ∧ y ≤ (4 : Nat) ∧ (4 : Nat) - y < (4 : Nat) - x else decide
  (distF (heldL c) (findV (heldL c) (Int.tmod (IntKind.wrap IntKind.i64 s) (16 : Int)) (Int.tmod (IntKind.wrap IntKind.i64 k) (13 : Int))) (Int.tmod (IntKind.wrap IntKind.i64 s) (16 : Int)) ≤ distF (heldL c) (List.take x
  (vecF (4 : Int) (Int.tmod k (13 : Int)) (Int.tmod i (countF (4 : Int) (Int.tmod k (13 : Int))))) ++ List.drop x [(0 : Int), (0 : Int), (0 : Int), (0 : Int)]) (Int.tmod (IntKind.wrap IntKind.i64 s) (16 : Int))) = true
theorem vc20 (c : List Int) (s k i : Int) : P20 c s k i = vcFun C20 (ann20 c s k i) Go.Proofs.Try.f20 [⟨.arr 4 (.int .i64), c⟩, ⟨.int .u8, s⟩, ⟨.int .u8, k⟩, ⟨.int .u32, i⟩] [] (out20 c s k i) := by kernel_rfl

end Go.SL.A

namespace Go.SL.A
open Go Go.SL Go.SL.S

theorem sgn_not {x a : Int} {b : Bool} (hsg : sgn x a) (hb : (!decide (a = 0)) = b) : (bif b then !decide (a < 0) == decide (x < 0) else false) = false := by
  by_cases h0 : a = 0
  · have : b = false := by rw [← hb]; simp [h0]
    rw [this]; rfl
  · have : b = true := by rw [← hb]; simp [h0]
    rw [this, cond_true]
    unfold sgn at hsg
    by_cases hx : x < 0
    · rw [if_pos hx] at hsg
      have : a < 0 := by omega
      simp [this, hx]
    · rw [if_neg hx] at hsg
      have : ¬ a < 0 := by omega
      simp only [this, hx, decide_false]; rfl

theorem pure20 (c : List Int) (s k i : Int) (hw : c.length = 4 ∧ (0 ≤ s ∧ s ≤ 255) ∧ (0 ≤ k ∧ k ≤ 255) ∧ 0 ≤ i ∧ i ≤ 4294967295) : P20 c s k i := by
  obtain ⟨hl, ⟨a1, a2⟩, ⟨b1, b2⟩, c1, c2⟩ := hw
  unfold P20
  rw [w64 (n := s) (by omega) (by omega), w64 (n := k) (by omega) (by omega), w64 (n := i) (by omega) (by omega)]
  have d1 := tdm s (k := 16) (by decide)
  have d2 := tdm k (k := 13) (by decide)
  have hh := heldL_held c
  have hS : 0 ≤ s.tmod 16 ∧ s.tmod 16 ≤ 15 := by omega
  have hK : 0 ≤ k.tmod 13 ∧ k.tmod 13 ≤ 12 := by omega
  clear d1 d2
  generalize s.tmod 16 = S at *
  generalize k.tmod 13 = K at *
  have hc := countF_fits 4 K
  have hcp : 1 ≤ countF 4 K := by
    unfold countF; rw [if_pos (may_iff.2 (by omega))]; exact cnt_pos 3 K.toNat
  have d3 := tdm i (k := countF 4 K) (by omega)
  have hI : 0 ≤ i.tmod (countF 4 K) ∧ i.tmod (countF 4 K) < countF 4 K := by omega
  clear d3
  generalize i.tmod (countF 4 K) = I at *
  obtain ⟨v1, v2, v3, v4⟩ := vec4 hK hI.1 hI.2
  generalize vecF 4 K I = v at *
  obtain ⟨hE, F⟩ := findV_ok hh hS hK
  generalize heldL c = x at *
  have hpu := F.pulses hK.2
  generalize findV x S K = y at *
  simp only [hE, hpu, v1, decide_true, Bool.not_true, cond_false, eq_self, true_and, and_true, Int.toNat_natCast, Nat.zero_add]
  refine ⟨⟨by decide, by decide⟩, ⟨by decide, F.len.symm⟩, by omega, 0, ⟨⟨rfl, rfl⟩, by omega⟩, fun j hj _ => ?_⟩
  by_cases j4 : (j : Int) < 4
  · simp only [j4, decide_true, cond_true]
    have hsg := F.sg j (by omega)
    refine ⟨⟨by omega, by omega, by omega, by omega⟩, ?_⟩
    intro b hb
    refine ⟨⟨by omega, by omega, by cases b <;> simp <;> omega⟩, ?_⟩
    have hno := sgn_not hsg hb
    rw [hno, cond_false]
    refine ⟨j + 1, ⟨step_i (by omega), ?_⟩, by omega, by omega⟩
    refine set_step (by omega) (by simp; omega) ?_
    rw [List.getD_eq_getElem?_getD, List.getElem?_eq_getElem (by omega)]; rfl
  · have : j = 4 := by omega
    subst this
    simp only [j4, decide_false, cond_false]
    rw [List.take_of_length_le (by omega), show List.drop 4 [(0 : Int), 0, 0, 0] = [] from rfl, List.append_nil, distF_far hS F.few hh, distF_far hS v3 hh]
    simp only [decide_eq_true_eq]
    exact F.best v v4
end Go.SL.A

/- Functions do what they are held to do. -/
namespace Go.SL.A
open Go Go.SL Go.SL.S
theorem snd20 : Sound Go.Proofs.Try.prog G20 := snd50.add ⟨_, Go.Proofs.Try.func20, by kernel_rfl, by kernel_rfl⟩ (by
  intro args ins out h hp
  unfold sp20 at h
  split at h
  · rename_i c s k i
    cases h
    exact vcFun_ok (C := C20) good snd50 methOk mix Go.Proofs.Try.func20 (ann20 c s k i) (fun hw => by rw [← vc20 c s k i]; exact pure20 c s k i (hw20 hw))
  · cases h)

end Go.SL.A

/- PulseLeast: the law returns true, whatever its arguments; each argument reads afterwards as before. No condition. -/
namespace Go.Proofs.Ythhfccnhkadkcaa
open Go Go.SL Go.SL.S Go.ChangeShapes Go.WideShapes Go.ChangeAt Go.WideMaps Go.WideElems Go.RowKit
set_option maxRecDepth 100000

theorem parsT : ((Go.Proofs.Try.f20.params.toList).all fun t => Nat.blt t Go.Proofs.Try.prog.types.size) = true := by kernel_rfl
theorem parsL : Go.Proofs.Try.f20.params.toList = [53, 5, 5, 42] := by kernel_rfl
theorem law_pure : ∀ avs bls, argsOk Go.SL.A.D Go.Proofs.Try.f20.params.toList 0 avs bls → VCall Go.Proofs.Try.prog 20 avs bls ⟨[], .v .bool true, [], []⟩ := by
  rw [parsL]
  intro avs bls h
  replace h : ∃ (t : Ty) (x : t.I) (avs' : List AV), Go.SL.A.D.ty 53 = some t ∧ avs = ⟨t, x⟩ :: avs' ∧ argsOk Go.SL.A.D [5, 5, 42] 0 avs' bls := h
  obtain ⟨t, x0, avs, ht, rfl, h⟩ := h
  obtain rfl : .arr 4 (.int .i64) = t := Option.some.inj ((show (some (.arr 4 (.int .i64)) : Option Ty) = Go.SL.A.D.ty 53 by kernel_rfl).trans ht)
  replace h : ∃ (t : Ty) (x : t.I) (avs' : List AV), Go.SL.A.D.ty 5 = some t ∧ avs = ⟨t, x⟩ :: avs' ∧ argsOk Go.SL.A.D [5, 42] 0 avs' bls := h
  obtain ⟨t, x1, avs, ht, rfl, h⟩ := h
  obtain rfl : .int .u8 = t := Option.some.inj ((show (some (.int .u8) : Option Ty) = Go.SL.A.D.ty 5 by kernel_rfl).trans ht)
  replace h : ∃ (t : Ty) (x : t.I) (avs' : List AV), Go.SL.A.D.ty 5 = some t ∧ avs = ⟨t, x⟩ :: avs' ∧ argsOk Go.SL.A.D [42] 0 avs' bls := h
  obtain ⟨t, x2, avs, ht, rfl, h⟩ := h
  obtain rfl : .int .u8 = t := Option.some.inj ((show (some (.int .u8) : Option Ty) = Go.SL.A.D.ty 5 by kernel_rfl).trans ht)
  replace h : ∃ (t : Ty) (x : t.I) (avs' : List AV), Go.SL.A.D.ty 42 = some t ∧ avs = ⟨t, x⟩ :: avs' ∧ argsOk Go.SL.A.D [] 0 avs' bls := h
  obtain ⟨t, x3, avs, ht, rfl, h⟩ := h
  obtain rfl : .int .u32 = t := Option.some.inj ((show (some (.int .u32) : Option Ty) = Go.SL.A.D.ty 42 by kernel_rfl).trans ht)
  obtain ⟨rfl, rfl⟩ : avs = [] ∧ bls = [] := h
  have q := (Go.SL.A.snd20 20 Go.SL.A.sp20 rfl).2 [⟨.arr 4 (.int .i64), x0⟩, ⟨.int .u8, x1⟩, ⟨.int .u8, x2⟩, ⟨.int .u32, x3⟩] [] _ rfl (trivial)
  exact q

theorem lifted (os : Os) (started : os.Started) (H : Type) (enc : TypeId × Value → H) :
    ReturnsInHanded {} Go.Proofs.Try.checked os 20 .any (Rows.pulseLeastSpec.pre6 enc Go.Proofs.Try.prog Go.Proofs.Try.f20 Rows.pulseLeastRow.domain false) (Rows.pulseLeastSpec.post enc Go.Proofs.Try.prog Go.Proofs.Try.f20 false true false false) := by
  refine returnsInHanded_of_change (C := Go.Proofs.Try.checked) Seat.own started (by kernel_rfl) Go.Proofs.Try.func20
    (ChangeSpec.witness6 (enc := enc) (C := Go.Proofs.Try.checked) false ⟨#[], #[.agg (Array.replicate 4 (.int .i64 0)), .int .u8 0, .int .u8 0, .int .u32 0], []⟩ 8 (by kernel_rfl) (by kernel_rfl) (by kernel_rfl) (by kernel_rfl)) ?_
  intro W base args ds gs before hval hW _ _
  refine law_calls (D := Go.SL.A.D) Go.SL.A.good Seat.kids Seat.slicesFull (fun t ht => Nat.le_of_ble_eq_true (List.all_eq_true.1 parsT t ht)) (by kernel_rfl) (show Go.Proofs.Try.f20.resultTypes = #[4] by kernel_rfl) Go.Proofs.Try.underlying4 rfl (fun ds h => ?_) law_pure (fun _ _ h => by cases (show none = some _ from h)) hval hW
  have h : ds.length = 4 := h
  match ds, h with
  | [_, _, _, _], _ => rfl

theorem joined : joinedFacts Go.Proofs.Try.prog 20 Go.Proofs.Try.f20 Rows.pulseLeastSpec Rows.pulseLeastRow = true := by
  unfold joinedFacts
  exact (andT (andT (andT (andT (andT (andT (andT (andT (andT (andT (andT (andT (andT (andT (andT (andT (andT (andT (andT (andT (andT (andT (andT (andT (andT (andT (andT (andT (andT (andT (andT (by as_aux_lemma => kernel_rfl) Seat.laidOut) Seat.mapsRowed) (by as_aux_lemma => kernel_rfl)) (by as_aux_lemma => kernel_rfl)) (by as_aux_lemma => kernel_rfl)) Seat.stops) (by as_aux_lemma => kernel_rfl)) Seat.knobs) (by as_aux_lemma => kernel_rfl)) (by as_aux_lemma => kernel_rfl)) (by as_aux_lemma => kernel_rfl)) (by as_aux_lemma => kernel_rfl)) (by as_aux_lemma => kernel_rfl)) (by as_aux_lemma => kernel_rfl)) (by as_aux_lemma => kernel_rfl)) (by as_aux_lemma => kernel_rfl)) (by as_aux_lemma => kernel_rfl)) (by as_aux_lemma => kernel_rfl)) (by as_aux_lemma => kernel_rfl)) (by as_aux_lemma => kernel_rfl)) (by as_aux_lemma => kernel_rfl)) (by as_aux_lemma => kernel_rfl)) (by as_aux_lemma => kernel_rfl)) Seat.heard) Seat.mayEnter) (by rw [Seat.lifts]; rfl)) (by rw [Seat.made]; rfl)) (by as_aux_lemma => kernel_rfl)) (by as_aux_lemma => kernel_rfl)) (by as_aux_lemma => kernel_rfl)) (by as_aux_lemma => kernel_rfl))

theorem pulseLeast_holds : Rows.PulseLeastSaid :=
  OpenClaim.holds_of_wide 20 Go.Proofs.Try.f20 rfl rfl rfl rfl rfl rfl rfl ⟨rfl, rfl, rfl, rfl, rfl⟩ rfl rfl rfl rfl rfl (by kernel_rfl) Go.Proofs.Try.func20 joined
    (of_decide_eq_true (by kernel_rfl)) (by unfold Func.isWrapper; first | (rw [if_pos (by decide +kernel)]; kernel_rfl) | (rw [if_neg (by decide +kernel)]; exact ⟨rfl, rfl⟩))
    (fun os started H enc _ => lifted os started H enc)

#print axioms pulseLeast_holds
end Go.Proofs.Ythhfccnhkadkcaa
