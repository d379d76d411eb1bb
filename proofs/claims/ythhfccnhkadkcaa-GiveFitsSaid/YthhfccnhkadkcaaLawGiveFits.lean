/- GiveFits returns true, whatever its arguments, which read afterwards as before: no condition. -/
import Derived.Test.YthhfccnhkadkcaaRows
import Derived.Test.YthhfccnhkadkcaaGive
import Derived.Test.YthhfccnhkadkcaaKb
import Derived.Test.YthhfccnhkadkcaaT

/- Functions and what they are held to do: bound to their code. -/
namespace Go.SL.A
open Go Go.SL Go.SL.S
set_option maxRecDepth 100000
noncomputable def C17 : Ctx := ⟨Go.Proofs.Try.prog, D, G55, meth18, fun _ => []⟩
def ann17 (_s : List Int) (_bits : Int) : Nat → St → Option Ann := fun _ _ => some ⟨Nat, [5, 6, 8], [1], fun i => [(9, .v (.int .i64) (i : Int))], fun _ => [], fun i => i ≤ 8, fun i => 8 - i⟩
def out17 (_s : List Int) (_bits : Int) : COut := ⟨[], .v .bool true, [], []⟩
def sp17 : Spec := fun args ins => match args, ins with
  | [⟨.arr 8 (.int .i64), s⟩, ⟨.int .u16, bits⟩], [] => some (out17 s bits)
  | _, _ => none
def G17 := addG G55 17 sp17
def P17 (s : List Int) (bits : Int) : Prop :=
  (1000 : Int) ≠ (0 : Int) ∧ ∀ (b : Bool), (!decide (giveE (held8 s) (Int.tmod (IntKind.wrap IntKind.i64 bits) (1000 : Int)) = (0 : Int))) = b → (((!b) = true → (!b) = true ∧ (!b) = true) ∧ (b = false → (!b) = true)) ∧ bif
  bif b then true else decide (Int.tmod (IntKind.wrap IntKind.i64 bits) (1000 : Int) < sumC (giveV (held8 s) (Int.tmod (IntKind.wrap IntKind.i64 bits) (1000 : Int)))) then false = true else ∃ (x : Nat), ((Int.tmod
  (IntKind.wrap IntKind.i64 bits) (1000 : Int) = Int.tmod (IntKind.wrap IntKind.i64 bits) (1000 : Int) ∧ (0 : Nat) = (0 : Nat) ∧ sumC (giveV (held8 s) (Int.tmod (IntKind.wrap IntKind.i64 bits) (1000 : Int))) = sumC (giveV
  (held8 s) (Int.tmod (IntKind.wrap IntKind.i64 bits) (1000 : Int))) ∧ (0 : Int) = (↑x : Int) ∧ giveV (held8 s) (Int.tmod (IntKind.wrap IntKind.i64 bits) (1000 : Int)) = giveV (held8 s) (Int.tmod (IntKind.wrap IntKind.i64
  bits) (1000 : Int)) ∧ false = false) ∧ x ≤ (8 : Nat)) ∧ ∀ (x : Nat), x ≤ (8 : Nat) → IntKind.min IntKind.i64 ≤ (↑x : Int) ∧ (↑x : Int) ≤ IntKind.max IntKind.i64 → bif decide ((↑x : Int) < (8 : Int)) then ∀ (b : Bool),
  decide (List.getD (giveV (held8 s) (Int.tmod (IntKind.wrap IntKind.i64 bits) (1000 : Int))) (Int.toNat (↑x : Int)) (0 : Int) < (0 : Int)) = b → bif bif b then true else decide ((12 : Int) < List.getD (giveV (held8 s)
  (Int.tmod (IntKind.wrap IntKind.i64 bits) (1000 : Int))) (Int.toNat (↑x : Int)) (0 : Int)) then (((0 : Int) ≤ (↑x : Int) ∧ (↑x : Int) < (↑(8 : Nat) : Int)) ∧ Int.toNat (↑x : Int) < (8 : Nat) ∧ ((!b) = true → (!b) = true ∧
  (0 : Int) ≤ (↑x : Int) ∧ (↑x : Int) < (↑(8 : Nat) : Int)) ∧ ((!b) = true → (!b) = true ∧ Int.toNat (↑x : Int) < (8 : Nat)) ∧ ((!b) = true → (!b) = true) ∧ (b = false → (!b) = true) ∧ (true = false → false = true)) ∧ false
  = true else bif decide (List.getD (giveV (held8 s) (Int.tmod (IntKind.wrap IntKind.i64 bits) (1000 : Int))) (Int.toNat (↑x : Int)) (0 : Int) < (12 : Int)) then (((0 : Int) ≤ (↑x : Int) ∧ (↑x : Int) < (↑(8 : Nat) : Int)) ∧
  Int.toNat (↑x : Int) < (8 : Nat) ∧ ((!b) = true → (!b) = true ∧ (0 : Int) ≤ (↑x : Int) ∧ (↑x : Int) < (↑(8 : Nat) : Int)) ∧ ((!b) = true → (!b) = true ∧ Int.toNat (↑x : Int) < (8 : Nat)) ∧ ((!b) = true → (!b) = true) ∧ (b
  = false → (!b) = true) ∧ ((0 : Int) ≤ (↑x : Int) ∧ (↑x : Int) < (↑(8 : Nat) : Int)) ∧ Int.toNat (↑x : Int) < (8 : Nat) ∧ ((0 : Int) ≤ (↑x : Int) ∧ (↑x : Int) < (↑(8 : Nat) : Int)) ∧ Int.toNat (↑x : Int) < (8 : Nat) ∧ ((0
  : Int) ≤ (↑x : Int) ∧ (↑x : Int) < (↑(8 : Nat) : Int)) ∧ Int.toNat (↑x : Int) < (8 : Nat)) ∧ bif decide (IntKind.wrap IntKind.i64 (bitsF (IntKind.wrap IntKind.i64 (List.getD (giveV (held8 s) (Int.tmod (IntKind.wrap
  IntKind.i64 bits) (1000 : Int))) (Int.toNat (↑x : Int)) (0 : Int) + (1 : Int))) - bitsF (List.getD (giveV (held8 s) (Int.tmod (IntKind.wrap IntKind.i64 bits) (1000 : Int))) (Int.toNat (↑x : Int)) (0 : Int))) ≤
  IntKind.wrap IntKind.i64 (Int.tmod (IntKind.wrap IntKind.i64 bits) (1000 : Int) - sumC (giveV (held8 s) (Int.tmod (IntKind.wrap IntKind.i64 bits) (1000 : Int))))) then false = true else ∃ (y : Nat), (Int.tmod
  (IntKind.wrap IntKind.i64 bits) (1000 : Int) = Int.tmod (IntKind.wrap IntKind.i64 bits) (1000 : Int) ∧ (0 : Nat) = (0 : Nat) ∧ sumC (giveV (held8 s) (Int.tmod (IntKind.wrap IntKind.i64 bits) (1000 : Int))) = sumC (giveV
  (held8 s) (Int.tmod (IntKind.wrap IntKind.i64 bits) (1000 : Int))) ∧ IntKind.wrap IntKind.i64 ((↑x : Int) + (1 : Int)) = (↑y : Int) ∧ giveV (held8 s) (Int.tmod (IntKind.wrap IntKind.i64 bits) (1000 : Int)) = giveV (held8
  s) (Int.tmod (IntKind.wrap IntKind.i64 bits) (1000 : Int)) ∧ false = false) ∧ y ≤ (8 : Nat) ∧ (8 : Nat) - y < (8 : Nat) - x else (((0 : Int) ≤ (↑x : Int) ∧ (↑x : Int) < (↑(8 : Nat) : Int)) ∧ Int.toNat (↑x : Int) < (8 :
  Nat) ∧ ((!b) = true → (!b) = true ∧ (0 : Int) ≤ (↑x : Int) ∧ (↑x : Int) < (↑(8 : Nat) : Int)) ∧ ((!b) = true → (!b) = true ∧ Int.toNat (↑x : Int) < (8 : Nat)) ∧ ((!b) = true → (!b) = true) ∧ (b = false → (!b) = true) ∧
  ((0 : Int) ≤ (↑x : Int) ∧ (↑x : Int) < (↑(8 : Nat) : Int)) ∧ Int.toNat (↑x : Int) < (8 : Nat) ∧ (false = true → false = true)) ∧ ∃ (y : Nat), (Int.tmod (IntKind.wrap IntKind.i64 bits) (1000 : Int) = Int.tmod (IntKind.wrap
  IntKind.i64 bits) (1000 : Int) ∧ (0 : Nat) = (0 : Nat) ∧ sumC (giveV (held8 s) (Int.tmod (IntKind.wrap IntKind.i64 bits) (1000 : Int))) = sumC (giveV (held8 s) (Int.tmod (IntKind.wrap IntKind.i64 bits) (1000 : Int))) ∧
  IntKind.wrap IntKind.i64 ((↑x : Int) + (1 : Int)) = (↑y : Int) ∧ giveV (held8 s) (Int.tmod (IntKind.wrap IntKind.i64 bits) (1000 : Int)) = giveV (held8 s) (Int.tmod (IntKind.wrap IntKind.i64 bits) (1000 : Int)) ∧ false =
  false) ∧ y ≤ (8 : Nat) ∧ (8 : Nat) - y < (8 : Nat) - x else true = true
theorem vc17 (s : List Int) (bits : Int) : P17 s bits = vcFun C17 (ann17 s bits) Go.Proofs.Try.f17 [⟨.arr 8 (.int .i64), s⟩, ⟨.int .u16, bits⟩] [] (out17 s bits) := by kernel_rfl

end Go.SL.A

namespace Go.SL.A
open Go Go.SL Go.SL.S

theorem pure17 (s : List Int) (bits : Int) (hw : s.length = 8 ∧ 0 ≤ bits ∧ bits ≤ 65535) : P17 s bits := by
  obtain ⟨hl, a1, a2⟩ := hw
  unfold P17
  rw [w64 (n := bits) (by omega) (by omega)]
  have d1 := tdm bits (k := 1000) (by decide)
  have hr := held8_right s
  have hB : 0 ≤ bits.tmod 1000 ∧ bits.tmod 1000 ≤ 1048576 := by omega
  clear d1
  generalize bits.tmod 1000 = B at *
  obtain ⟨hE, hV⟩ := giveV_ok hr hB
  obtain ⟨left, g1, g2, g3, g4⟩ := give_end (held8 s) hB.1
  rw [hE, hV]
  generalize giveF (held8 s) B = k at *
  simp only [decide_true, Bool.not_true, eq_self, true_and, and_true, Int.toNat_natCast]
  refine ⟨by decide, ?_⟩
  rintro _ rfl
  have hle : ¬ B < sumC k := by omega
  simp only [hle, decide_false, cond_false]
  refine ⟨by simp, 0, ⟨rfl, by omega⟩, fun i hi _ => ?_⟩
  by_cases h8 : (i : Int) < 8
  · simp only [h8, decide_true, cond_true]
    obtain ⟨r1, r2⟩ := g4 i (by omega)
    intro b hb
    have hn0 : ¬ k.getD i 0 < 0 := by omega
    have hn1 : ¬ 12 < k.getD i 0 := by omega
    have : b = false := by rw [← hb]; exact decide_eq_false hn0
    subst this
    simp only [hn1, decide_false, cond_false]
    by_cases h12 : k.getD i 0 < 12
    · simp only [h12, decide_true, cond_true]
      have hm := more_bits r1.1 h12
      have hm2 := more_nn r1.1 h12
      have hs := sumC_fits k
      rw [g2] at hs
      have f1 := bitsF_fits (k.getD i 0 + 1)
      have f2 := bitsF_fits (k.getD i 0)
      have w1 : IntKind.i64.wrap (k.getD i 0 + 1) = k.getD i 0 + 1 := w64 (by omega) (by omega)
      have w2 : IntKind.i64.wrap (bitsF (k.getD i 0 + 1) - bitsF (k.getD i 0)) = bitsF (k.getD i 0 + 1) - bitsF (k.getD i 0) := w64 (by omega) (by omega)
      have w3 : IntKind.i64.wrap (B - sumC k) = B - sumC k := w64 (by omega) (by omega)
      have hno : ¬ bitsF (k.getD i 0 + 1) - bitsF (k.getD i 0) ≤ B - sumC k := by
        unfold noMore at r2
        simp only [Bool.or_eq_true, decide_eq_true_eq] at r2
        omega
      simp only [w1, w2, w3, hno, decide_false, cond_false]
      exact ⟨⟨by omega, by omega, fun h => ⟨h, by omega⟩, fun h => ⟨h, by omega⟩, fun h => h, fun _ => rfl, by omega, by omega, by omega, by omega, by omega, by omega⟩, i + 1, step_i (by omega), by omega, by omega⟩
    · simp only [h12, decide_false, cond_false]
      exact ⟨⟨by omega, by omega, fun h => ⟨h, by omega⟩, fun h => ⟨h, by omega⟩, fun h => h, fun _ => rfl, by omega, by omega, by simp⟩, i + 1, step_i (by omega), by omega, by omega⟩
  · simp only [h8, decide_false, cond_false]
end Go.SL.A

/- Functions do what they are held to do. -/
namespace Go.SL.A
open Go Go.SL Go.SL.S
theorem snd17 : Sound Go.Proofs.Try.prog G17 := snd55.add ⟨_, Go.Proofs.Try.func17, by kernel_rfl, by kernel_rfl⟩ (by
  intro args ins out h hp
  unfold sp17 at h
  split at h
  · rename_i s bits
    cases h
    exact vcFun_ok (C := C17) good snd55 methOk18 mix Go.Proofs.Try.func17 (ann17 s bits) (fun hw => by rw [← vc17 s bits]; exact pure17 s bits (hw16 hw))
  · cases h)

end Go.SL.A

/- GiveFits: the law returns true, whatever its arguments; each argument reads afterwards as before. No condition. -/
namespace Go.Proofs.Ythhfccnhkadkcaa
open Go Go.SL Go.SL.S Go.ChangeShapes Go.WideShapes Go.ChangeAt Go.WideMaps Go.WideElems Go.RowKit
set_option maxRecDepth 100000

theorem parsT : ((Go.Proofs.Try.f17.params.toList).all fun t => Nat.blt t Go.Proofs.Try.prog.types.size) = true := by kernel_rfl
theorem parsL : Go.Proofs.Try.f17.params.toList = [64, 65] := by kernel_rfl
theorem law_pure : ∀ avs bls, argsOk Go.SL.A.D Go.Proofs.Try.f17.params.toList 0 avs bls → VCall Go.Proofs.Try.prog 17 avs bls ⟨[], .v .bool true, [], []⟩ := by
  rw [parsL]
  intro avs bls h
  replace h : ∃ (t : Ty) (x : t.I) (avs' : List AV), Go.SL.A.D.ty 64 = some t ∧ avs = ⟨t, x⟩ :: avs' ∧ argsOk Go.SL.A.D [65] 0 avs' bls := h
  obtain ⟨t, x0, avs, ht, rfl, h⟩ := h
  obtain rfl : .arr 8 (.int .i64) = t := Option.some.inj ((show (some (.arr 8 (.int .i64)) : Option Ty) = Go.SL.A.D.ty 64 by kernel_rfl).trans ht)
  replace h : ∃ (t : Ty) (x : t.I) (avs' : List AV), Go.SL.A.D.ty 65 = some t ∧ avs = ⟨t, x⟩ :: avs' ∧ argsOk Go.SL.A.D [] 0 avs' bls := h
  obtain ⟨t, x1, avs, ht, rfl, h⟩ := h
  obtain rfl : .int .u16 = t := Option.some.inj ((show (some (.int .u16) : Option Ty) = Go.SL.A.D.ty 65 by kernel_rfl).trans ht)
  obtain ⟨rfl, rfl⟩ : avs = [] ∧ bls = [] := h
  have q := (Go.SL.A.snd17 17 Go.SL.A.sp17 rfl).2 [⟨.arr 8 (.int .i64), x0⟩, ⟨.int .u16, x1⟩] [] _ rfl (trivial)
  exact q

theorem lifted (os : Os) (started : os.Started) (H : Type) (enc : TypeId × Value → H) :
    ReturnsInHanded {} Go.Proofs.Try.checked os 17 .any (Rows.giveFitsSpec.pre6 enc Go.Proofs.Try.prog Go.Proofs.Try.f17 Rows.giveFitsRow.domain false) (Rows.giveFitsSpec.post enc Go.Proofs.Try.prog Go.Proofs.Try.f17 false true false false) := by
  refine returnsInHanded_of_change (C := Go.Proofs.Try.checked) Seat.own started (by kernel_rfl) Go.Proofs.Try.func17
    (ChangeSpec.witness6 (enc := enc) (C := Go.Proofs.Try.checked) false ⟨#[], #[.agg (Array.replicate 8 (.int .i64 0)), .int .u16 0], []⟩ 8 (by kernel_rfl) (by kernel_rfl) (by kernel_rfl) (by kernel_rfl)) ?_
  intro W base args ds gs before hval hW _ _
  refine law_calls (D := Go.SL.A.D) Go.SL.A.good Seat.kids Seat.slicesFull (fun t ht => Nat.le_of_ble_eq_true (List.all_eq_true.1 parsT t ht)) (by kernel_rfl) (show Go.Proofs.Try.f17.resultTypes = #[4] by kernel_rfl) Go.Proofs.Try.underlying4 rfl (fun ds h => ?_) law_pure (fun _ _ h => by cases (show none = some _ from h)) hval hW
  have h : ds.length = 2 := h
  match ds, h with
  | [_, _], _ => rfl

theorem joined : joinedFacts Go.Proofs.Try.prog 17 Go.Proofs.Try.f17 Rows.giveFitsSpec Rows.giveFitsRow = true := by
  unfold joinedFacts
  exact (andT (andT (andT (andT (andT (andT (andT (andT (andT (andT (andT (andT (andT (andT (andT (andT (andT (andT (andT (andT (andT (andT (andT (andT (andT (andT (andT (andT (andT (andT (andT (by as_aux_lemma => kernel_rfl) Seat.laidOut) Seat.mapsRowed) (by as_aux_lemma => kernel_rfl)) (by as_aux_lemma => kernel_rfl)) (by as_aux_lemma => kernel_rfl)) Seat.stops) (by as_aux_lemma => kernel_rfl)) Seat.knobs) (by as_aux_lemma => kernel_rfl)) (by as_aux_lemma => kernel_rfl)) (by as_aux_lemma => kernel_rfl)) (by as_aux_lemma => kernel_rfl)) (by as_aux_lemma => kernel_rfl)) (by as_aux_lemma => kernel_rfl)) (by as_aux_lemma => kernel_rfl)) (by as_aux_lemma => kernel_rfl)) (by as_aux_lemma => kernel_rfl)) (by as_aux_lemma => kernel_rfl)) (by as_aux_lemma => kernel_rfl)) (by as_aux_lemma => kernel_rfl)) (by as_aux_lemma => kernel_rfl)) (by as_aux_lemma => kernel_rfl)) (by as_aux_lemma => kernel_rfl)) Seat.heard) Seat.mayEnter) (by rw [Seat.lifts]; rfl)) (by rw [Seat.made]; rfl)) (by as_aux_lemma => kernel_rfl)) (by as_aux_lemma => kernel_rfl)) (by as_aux_lemma => kernel_rfl)) (by as_aux_lemma => kernel_rfl))

theorem giveFits_holds : Rows.GiveFitsSaid :=
  OpenClaim.holds_of_wide 17 Go.Proofs.Try.f17 rfl rfl rfl rfl rfl rfl rfl ⟨rfl, rfl, rfl, rfl, rfl⟩ rfl rfl rfl rfl rfl (by kernel_rfl) Go.Proofs.Try.func17 joined
    (of_decide_eq_true (by kernel_rfl)) (by unfold Func.isWrapper; first | (rw [if_pos (by decide +kernel)]; kernel_rfl) | (rw [if_neg (by decide +kernel)]; exact ⟨rfl, rfl⟩))
    (fun os started H enc _ => lifted os started H enc)

#print axioms giveFits_holds
end Go.Proofs.Ythhfccnhkadkcaa
