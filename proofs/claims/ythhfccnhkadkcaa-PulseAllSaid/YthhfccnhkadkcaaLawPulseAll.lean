/- PulseAll returns true, whatever its arguments, which read afterwards as before: no condition. -/
import Derived.Test.YthhfccnhkadkcaaRows
import Derived.Test.YthhfccnhkadkcaaPulse
import Derived.Test.YthhfccnhkadkcaaKb
import Derived.Test.YthhfccnhkadkcaaT

/- Functions and what they are held to do: bound to their code. -/
namespace Go.SL.A
open Go Go.SL Go.SL.S
set_option maxRecDepth 100000
noncomputable def C13 : Ctx := ⟨Go.Proofs.Try.prog, D, G50, meth14, fun _ => []⟩
def ann13 (c : List Int) (s k : Int) : Nat → St → Option Ann := fun id S => some ⟨Nat, [7, 8, 10, 11, 12, 13], [1, 2, 3], fun i => [(14, .v (.int .i64) (i : Int))], fun _ => [], fun i => i ≤ (allF (k.tmod 5).toNat).length, fun i => (allF (k.tmod 5).toNat).length - i⟩
def out13 (c : List Int) (s k : Int) : COut := ⟨[], .v .bool true, [], []⟩
def sp13 : Spec := fun args ins => match args, ins with
  | [⟨.arr 4 (.int .i64), c⟩, ⟨.int .u8, s⟩, ⟨.int .u8, k⟩], [] => some (out13 c s k)
  | _, _ => none
def G13 := addG G50 13 sp13
def P13 (c : List Int) (s k : Int) : Prop :=
  ((16 : Int) ≠ (0 : Int) ∧ (5 : Int) ≠ (0 : Int)) ∧ ((0 : Int) ≤ Int.tmod (IntKind.wrap IntKind.i64 k) (5 : Int) ∧ Int.tmod (IntKind.wrap IntKind.i64 k) (5 : Int) ≤ (8 : Int)) ∧ (((0 : Int) ≤ Int.tmod (IntKind.wrap
  IntKind.i64 s) (16 : Int) ∧ Int.tmod (IntKind.wrap IntKind.i64 s) (16 : Int) ≤ (15 : Int)) ∧ heldF (heldL c) = true ∧ fewF (findV (heldL c) (Int.tmod (IntKind.wrap IntKind.i64 s) (16 : Int)) (Int.tmod (IntKind.wrap
  IntKind.i64 k) (5 : Int))) = true) ∧ ∃ (x : Nat), (((0 : Nat) = (0 : Nat) ∧ Int.tmod (IntKind.wrap IntKind.i64 s) (16 : Int) = Int.tmod (IntKind.wrap IntKind.i64 s) (16 : Int) ∧ (0 : Nat) = (0 : Nat) ∧ findE (heldL c)
  (Int.tmod (IntKind.wrap IntKind.i64 s) (16 : Int)) (Int.tmod (IntKind.wrap IntKind.i64 k) (5 : Int)) = findE (heldL c) (Int.tmod (IntKind.wrap IntKind.i64 s) (16 : Int)) (Int.tmod (IntKind.wrap IntKind.i64 k) (5 : Int)) ∧
  (0 : Nat) = (0 : Nat) ∧ List.length (allF (Int.toNat (Int.tmod (IntKind.wrap IntKind.i64 k) (5 : Int)))) = List.length (allF (Int.toNat (Int.tmod (IntKind.wrap IntKind.i64 k) (5 : Int)))) ∧ farTo (heldL c) (coefF (findV
  (heldL c) (Int.tmod (IntKind.wrap IntKind.i64 s) (16 : Int)) (Int.tmod (IntKind.wrap IntKind.i64 k) (5 : Int))) (Int.tmod (IntKind.wrap IntKind.i64 s) (16 : Int))) (4 : Nat) = farTo (heldL c) (coefF (findV (heldL c)
  (Int.tmod (IntKind.wrap IntKind.i64 s) (16 : Int)) (Int.tmod (IntKind.wrap IntKind.i64 k) (5 : Int))) (Int.tmod (IntKind.wrap IntKind.i64 s) (16 : Int))) (4 : Nat) ∧ (0 : Int) = (↑x : Int) ∧ heldL c = heldL c ∧ false =
  false ∧ findV (heldL c) (Int.tmod (IntKind.wrap IntKind.i64 s) (16 : Int)) (Int.tmod (IntKind.wrap IntKind.i64 k) (5 : Int)) = findV (heldL c) (Int.tmod (IntKind.wrap IntKind.i64 s) (16 : Int)) (Int.tmod (IntKind.wrap
  IntKind.i64 k) (5 : Int)) ∧ false = false ∧ allF (Int.toNat (Int.tmod (IntKind.wrap IntKind.i64 k) (5 : Int))) = allF (Int.toNat (Int.tmod (IntKind.wrap IntKind.i64 k) (5 : Int))) ∧ false = false) ∧ x ≤ List.length (allF
  (Int.toNat (Int.tmod k (5 : Int))))) ∧ ∀ (x : Nat), x ≤ List.length (allF (Int.toNat (Int.tmod k (5 : Int)))) → IntKind.min IntKind.i64 ≤ (↑x : Int) ∧ (↑x : Int) ≤ IntKind.max IntKind.i64 → bif decide ((↑x : Int) <
  (↑(List.length (allF (Int.toNat (Int.tmod (IntKind.wrap IntKind.i64 k) (5 : Int))))) : Int)) then (((0 : Int) ≤ (↑x : Int) ∧ (↑x : Int) < (↑(List.length (allF (Int.toNat (Int.tmod (IntKind.wrap IntKind.i64 k) (5 :
  Int))))) : Int)) ∧ (0 : Nat) + Int.toNat (↑x : Int) < List.length (allF (Int.toNat (Int.tmod (IntKind.wrap IntKind.i64 k) (5 : Int)))) ∧ ((0 : Int) ≤ Int.tmod (IntKind.wrap IntKind.i64 s) (16 : Int) ∧ Int.tmod
  (IntKind.wrap IntKind.i64 s) (16 : Int) ≤ (15 : Int)) ∧ heldF (heldL c) = true ∧ fewF (List.getD (allF (Int.toNat (Int.tmod (IntKind.wrap IntKind.i64 k) (5 : Int)))) ((0 : Nat) + Int.toNat (↑x : Int)) (List.replicate (4 :
  Nat) (0 : Int))) = true) ∧ bif decide (farTo (heldL c) (coefF (List.getD (allF (Int.toNat (Int.tmod (IntKind.wrap IntKind.i64 k) (5 : Int)))) ((0 : Nat) + Int.toNat (↑x : Int)) (List.replicate (4 : Nat) (0 : Int)))
  (Int.tmod (IntKind.wrap IntKind.i64 s) (16 : Int))) (4 : Nat) < farTo (heldL c) (coefF (findV (heldL c) (Int.tmod (IntKind.wrap IntKind.i64 s) (16 : Int)) (Int.tmod (IntKind.wrap IntKind.i64 k) (5 : Int))) (Int.tmod
  (IntKind.wrap IntKind.i64 s) (16 : Int))) (4 : Nat)) then false = true else ∃ (y : Nat), ((0 : Nat) = (0 : Nat) ∧ Int.tmod (IntKind.wrap IntKind.i64 s) (16 : Int) = Int.tmod (IntKind.wrap IntKind.i64 s) (16 : Int) ∧ (0 :
  Nat) = (0 : Nat) ∧ findE (heldL c) (Int.tmod (IntKind.wrap IntKind.i64 s) (16 : Int)) (Int.tmod (IntKind.wrap IntKind.i64 k) (5 : Int)) = findE (heldL c) (Int.tmod (IntKind.wrap IntKind.i64 s) (16 : Int)) (Int.tmod
  (IntKind.wrap IntKind.i64 k) (5 : Int)) ∧ (0 : Nat) = (0 : Nat) ∧ List.length (allF (Int.toNat (Int.tmod (IntKind.wrap IntKind.i64 k) (5 : Int)))) = List.length (allF (Int.toNat (Int.tmod (IntKind.wrap IntKind.i64 k) (5 :
  Int)))) ∧ farTo (heldL c) (coefF (findV (heldL c) (Int.tmod (IntKind.wrap IntKind.i64 s) (16 : Int)) (Int.tmod (IntKind.wrap IntKind.i64 k) (5 : Int))) (Int.tmod (IntKind.wrap IntKind.i64 s) (16 : Int))) (4 : Nat) = farTo
  (heldL c) (coefF (findV (heldL c) (Int.tmod (IntKind.wrap IntKind.i64 s) (16 : Int)) (Int.tmod (IntKind.wrap IntKind.i64 k) (5 : Int))) (Int.tmod (IntKind.wrap IntKind.i64 s) (16 : Int))) (4 : Nat) ∧ IntKind.wrap
  IntKind.i64 ((↑x : Int) + (1 : Int)) = (↑y : Int) ∧ heldL c = heldL c ∧ false = false ∧ findV (heldL c) (Int.tmod (IntKind.wrap IntKind.i64 s) (16 : Int)) (Int.tmod (IntKind.wrap IntKind.i64 k) (5 : Int)) = findV (heldL
  c) (Int.tmod (IntKind.wrap IntKind.i64 s) (16 : Int)) (Int.tmod (IntKind.wrap IntKind.i64 k) (5 : Int)) ∧ false = false ∧ allF (Int.toNat (Int.tmod (IntKind.wrap IntKind.i64 k) (5 : Int))) = allF (Int.toNat (Int.tmod
  (IntKind.wrap IntKind.i64 k) (5 : Int))) ∧ false = false) ∧ y ≤ List.length (allF (Int.toNat (Int.tmod k (5 : Int)))) ∧ List.length (allF (Int.toNat (Int.tmod k (5 : Int)))) - y < List.length (allF (Int.toNat (Int.tmod k
  (5 : Int)))) - x else bif decide (findE (heldL c) (Int.tmod (IntKind.wrap IntKind.i64 s) (16 : Int)) (Int.tmod (IntKind.wrap IntKind.i64 k) (5 : Int)) = (0 : Int)) then decide (farTo (heldL c) (coefF (findV (heldL c)
  (Int.tmod (IntKind.wrap IntKind.i64 s) (16 : Int)) (Int.tmod (IntKind.wrap IntKind.i64 k) (5 : Int))) (Int.tmod (IntKind.wrap IntKind.i64 s) (16 : Int))) (4 : Nat) = distF (heldL c) (findV (heldL c) (Int.tmod
  (IntKind.wrap IntKind.i64 s) (16 : Int)) (Int.tmod (IntKind.wrap IntKind.i64 k) (5 : Int))) (Int.tmod (IntKind.wrap IntKind.i64 s) (16 : Int))) = true else (false = true → false = true) ∧ false = true
theorem vc13 (c : List Int) (s k : Int) : P13 c s k = vcFun C13 (ann13 c s k) Go.Proofs.Try.f13 [⟨.arr 4 (.int .i64), c⟩, ⟨.int .u8, s⟩, ⟨.int .u8, k⟩] [] (out13 c s k) := by kernel_rfl

end Go.SL.A

namespace Go.SL.A
open Go Go.SL Go.SL.S

theorem pure13 (c : List Int) (s k : Int) (hw : c.length = 4 ∧ (0 ≤ s ∧ s ≤ 255) ∧ 0 ≤ k ∧ k ≤ 255) : P13 c s k := by
  obtain ⟨hl, ⟨a1, a2⟩, b1, b2⟩ := hw
  unfold P13
  rw [w64 (n := s) (by omega) (by omega), w64 (n := k) (by omega) (by omega)]
  have d1 := tdm s (k := 16) (by decide)
  have d2 := tdm k (k := 5) (by decide)
  have hh := heldL_held c
  have hS : 0 ≤ s.tmod 16 ∧ s.tmod 16 ≤ 15 := by omega
  have hK : 0 ≤ k.tmod 5 ∧ k.tmod 5 ≤ 4 := by omega
  clear d1 d2
  generalize s.tmod 16 = S at *
  generalize k.tmod 5 = K at *
  obtain ⟨hE, F⟩ := findV_ok hh hS (show 0 ≤ K ∧ K ≤ 12 by omega)
  generalize heldL c = x at *
  rw [hE, farTo_far hS F.few, distF_far hS F.few hh]
  simp only [eq_self, true_and, and_true, Int.toNat_natCast, Nat.zero_add, decide_true, cond_true]
  have hlen : ((allF K.toNat).length : Int) = cnt 4 K.toNat := by rw [all_eq (by omega)]; exact allV_len (by omega)
  have hfits : cnt 4 K.toNat ≤ 1000 := by
    have : K.toNat = 0 ∨ K.toNat = 1 ∨ K.toNat = 2 ∨ K.toNat = 3 ∨ K.toNat = 4 := by omega
    rcases this with h | h | h | h | h <;> rw [h] <;> decide
  refine ⟨⟨by decide, by decide⟩, by omega, ⟨hS, hh, F.few⟩, 0, ⟨rfl, by omega⟩, fun i hi _ => ?_⟩
  by_cases h : (i : Int) < ((allF K.toNat).length : Int)
  · simp only [h, decide_true, cond_true]
    have hc : countF 4 K = cnt 4 K.toNat := by unfold countF; rw [if_pos (may_iff.2 (by omega))]; rfl
    obtain ⟨-, r2, r3, r4⟩ := vec4 (k := K) (i := (i : Int)) (by omega) (by omega) (by omega)
    have hrow : (allF K.toNat).getD i [0, 0, 0, 0] = vecF 4 K i := by
      rw [all_eq (by omega)]
      have := allV_get (n := 4) (K := K.toNat) (i := (i : Int)) (by omega) (by omega) (by omega) [0, 0, 0, 0]
      rw [Int.toNat_natCast] at this
      rw [this]
      unfold vecF
      rw [if_pos ⟨may_iff.2 (by omega), by omega, by omega⟩, Int.toNat_of_nonneg hK.1]; rfl
    have hd : (allF K.toNat).getD i (List.replicate 4 0) = vecF 4 K i := hrow
    simp only [hd, r3]
    rw [farTo_far hS r3]
    have hb := F.best _ r4
    have hb' : ¬ farF x (vecF 4 K i) (gainF S) < farF x (findV x S K) (gainF S) := by omega
    simp only [hb', decide_false, cond_false]
    exact ⟨⟨by simp, by omega, hS, hh, trivial⟩, i + 1, step_i (by omega), by omega, by omega⟩
  · simp only [h, decide_false, cond_false]
end Go.SL.A

/- Functions do what they are held to do. -/
namespace Go.SL.A
open Go Go.SL Go.SL.S
theorem snd13 : Sound Go.Proofs.Try.prog G13 := snd50.add ⟨_, Go.Proofs.Try.func13, by kernel_rfl, by kernel_rfl⟩ (by
  intro args ins out h hp
  unfold sp13 at h
  split at h
  · rename_i c s k
    cases h
    exact vcFun_ok (C := C13) good snd50 methOk mix Go.Proofs.Try.func13 (ann13 c s k) (fun hw => by rw [← vc13 c s k]; exact pure13 c s k (hwL14 hw))
  · cases h)

end Go.SL.A

/- PulseAll: the law returns true, whatever its arguments; each argument reads afterwards as before. No condition. -/
namespace Go.Proofs.Ythhfccnhkadkcaa
open Go Go.SL Go.SL.S Go.ChangeShapes Go.WideShapes Go.ChangeAt Go.WideMaps Go.WideElems Go.RowKit
set_option maxRecDepth 100000

theorem parsT : ((Go.Proofs.Try.f13.params.toList).all fun t => Nat.blt t Go.Proofs.Try.prog.types.size) = true := by kernel_rfl
theorem parsL : Go.Proofs.Try.f13.params.toList = [53, 5, 5] := by kernel_rfl
theorem law_pure : ∀ avs bls, argsOk Go.SL.A.D Go.Proofs.Try.f13.params.toList 0 avs bls → VCall Go.Proofs.Try.prog 13 avs bls ⟨[], .v .bool true, [], []⟩ := by
  rw [parsL]
  intro avs bls h
  replace h : ∃ (t : Ty) (x : t.I) (avs' : List AV), Go.SL.A.D.ty 53 = some t ∧ avs = ⟨t, x⟩ :: avs' ∧ argsOk Go.SL.A.D [5, 5] 0 avs' bls := h
  obtain ⟨t, x0, avs, ht, rfl, h⟩ := h
  obtain rfl : .arr 4 (.int .i64) = t := Option.some.inj ((show (some (.arr 4 (.int .i64)) : Option Ty) = Go.SL.A.D.ty 53 by kernel_rfl).trans ht)
  replace h : ∃ (t : Ty) (x : t.I) (avs' : List AV), Go.SL.A.D.ty 5 = some t ∧ avs = ⟨t, x⟩ :: avs' ∧ argsOk Go.SL.A.D [5] 0 avs' bls := h
  obtain ⟨t, x1, avs, ht, rfl, h⟩ := h
  obtain rfl : .int .u8 = t := Option.some.inj ((show (some (.int .u8) : Option Ty) = Go.SL.A.D.ty 5 by kernel_rfl).trans ht)
  replace h : ∃ (t : Ty) (x : t.I) (avs' : List AV), Go.SL.A.D.ty 5 = some t ∧ avs = ⟨t, x⟩ :: avs' ∧ argsOk Go.SL.A.D [] 0 avs' bls := h
  obtain ⟨t, x2, avs, ht, rfl, h⟩ := h
  obtain rfl : .int .u8 = t := Option.some.inj ((show (some (.int .u8) : Option Ty) = Go.SL.A.D.ty 5 by kernel_rfl).trans ht)
  obtain ⟨rfl, rfl⟩ : avs = [] ∧ bls = [] := h
  have q := (Go.SL.A.snd13 13 Go.SL.A.sp13 rfl).2 [⟨.arr 4 (.int .i64), x0⟩, ⟨.int .u8, x1⟩, ⟨.int .u8, x2⟩] [] _ rfl (trivial)
  exact q

theorem lifted (os : Os) (started : os.Started) (H : Type) (enc : TypeId × Value → H) :
    ReturnsInHanded {} Go.Proofs.Try.checked os 13 .any (Rows.pulseAllSpec.pre6 enc Go.Proofs.Try.prog Go.Proofs.Try.f13 Rows.pulseAllRow.domain false) (Rows.pulseAllSpec.post enc Go.Proofs.Try.prog Go.Proofs.Try.f13 false true false false) := by
  refine returnsInHanded_of_change (C := Go.Proofs.Try.checked) Seat.own started (by kernel_rfl) Go.Proofs.Try.func13
    (ChangeSpec.witness6 (enc := enc) (C := Go.Proofs.Try.checked) false ⟨#[], #[.agg (Array.replicate 4 (.int .i64 0)), .int .u8 0, .int .u8 0], []⟩ 8 (by kernel_rfl) (by kernel_rfl) (by kernel_rfl) (by kernel_rfl)) ?_
  intro W base args ds gs before hval hW _ _
  refine law_calls (D := Go.SL.A.D) Go.SL.A.good Seat.kids Seat.slicesFull (fun t ht => Nat.le_of_ble_eq_true (List.all_eq_true.1 parsT t ht)) (by kernel_rfl) (show Go.Proofs.Try.f13.resultTypes = #[4] by kernel_rfl) Go.Proofs.Try.underlying4 rfl (fun ds h => ?_) law_pure (fun _ _ h => by cases (show none = some _ from h)) hval hW
  have h : ds.length = 3 := h
  match ds, h with
  | [_, _, _], _ => rfl

theorem joined : joinedFacts Go.Proofs.Try.prog 13 Go.Proofs.Try.f13 Rows.pulseAllSpec Rows.pulseAllRow = true := by
  unfold joinedFacts
  exact (andT (andT (andT (andT (andT (andT (andT (andT (andT (andT (andT (andT (andT (andT (andT (andT (andT (andT (andT (andT (andT (andT (andT (andT (andT (andT (andT (andT (andT (andT (andT (by as_aux_lemma => kernel_rfl) Seat.laidOut) Seat.mapsRowed) (by as_aux_lemma => kernel_rfl)) (by as_aux_lemma => kernel_rfl)) (by as_aux_lemma => kernel_rfl)) Seat.stops) (by as_aux_lemma => kernel_rfl)) Seat.knobs) (by as_aux_lemma => kernel_rfl)) (by as_aux_lemma => kernel_rfl)) (by as_aux_lemma => kernel_rfl)) (by as_aux_lemma => kernel_rfl)) (by as_aux_lemma => kernel_rfl)) (by as_aux_lemma => kernel_rfl)) (by as_aux_lemma => kernel_rfl)) (by as_aux_lemma => kernel_rfl)) (by as_aux_lemma => kernel_rfl)) (by as_aux_lemma => kernel_rfl)) (by as_aux_lemma => kernel_rfl)) (by as_aux_lemma => kernel_rfl)) (by as_aux_lemma => kernel_rfl)) (by as_aux_lemma => kernel_rfl)) (by as_aux_lemma => kernel_rfl)) Seat.heard) Seat.mayEnter) (by rw [Seat.lifts]; rfl)) (by rw [Seat.made]; rfl)) (by as_aux_lemma => kernel_rfl)) (by as_aux_lemma => kernel_rfl)) (by as_aux_lemma => kernel_rfl)) (by as_aux_lemma => kernel_rfl))

theorem pulseAll_holds : Rows.PulseAllSaid :=
  OpenClaim.holds_of_wide 13 Go.Proofs.Try.f13 rfl rfl rfl rfl rfl rfl rfl ⟨rfl, rfl, rfl, rfl, rfl⟩ rfl rfl rfl rfl rfl (by kernel_rfl) Go.Proofs.Try.func13 joined
    (of_decide_eq_true (by kernel_rfl)) (by unfold Func.isWrapper; first | (rw [if_pos (by decide +kernel)]; kernel_rfl) | (rw [if_neg (by decide +kernel)]; exact ⟨rfl, rfl⟩))
    (fun os started H enc _ => lifted os started H enc)

#print axioms pulseAll_holds
end Go.Proofs.Ythhfccnhkadkcaa
