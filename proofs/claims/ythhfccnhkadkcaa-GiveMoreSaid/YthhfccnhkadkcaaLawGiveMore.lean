/- GiveMore returns true, whatever its arguments, which read afterwards as before: no condition. -/
import Derived.Test.YthhfccnhkadkcaaRows
import Derived.Test.YthhfccnhkadkcaaGive
import Derived.Test.YthhfccnhkadkcaaKb
import Derived.Test.YthhfccnhkadkcaaT

/- Functions and what they are held to do: bound to their code. -/
namespace Go.SL.A
open Go Go.SL Go.SL.S
set_option maxRecDepth 100000
noncomputable def C16 : Ctx := ⟨Go.Proofs.Try.prog, D, G55, meth18, fun _ => []⟩
def ann16 (s : List Int) (_bits : Int) : Nat → St → Option Ann := fun _ _ => some ⟨Nat, [5, 6, 7, 8], [1, 2], fun i => [(10, .v (.int .i64) (i : Int)), (9, .v (.int .i64) (bestIx (held8 s) i : Nat))], fun _ => [], fun i => 1 ≤ i ∧ i ≤ 8, fun i => 8 - i⟩
def out16 (_s : List Int) (_bits : Int) : COut := ⟨[], .v .bool true, [], []⟩
def sp16 : Spec := fun args ins => match args, ins with
  | [⟨.arr 8 (.int .i64), s⟩, ⟨.int .u16, bits⟩], [] => some (out16 s bits)
  | _, _ => none
def G16 := addG G55 16 sp16
def P16 (s : List Int) (bits : Int) : Prop :=
  (1000 : Int) ≠ (0 : Int) ∧ ∃ (x : Nat), ((Int.tmod (IntKind.wrap IntKind.i64 bits) (1000 : Int) = Int.tmod (IntKind.wrap IntKind.i64 bits) (1000 : Int) ∧ (0 : Nat) = (0 : Nat) ∧ (0 : Nat) = (0 : Nat) ∧ giveE (held8 s)
  (Int.tmod (IntKind.wrap IntKind.i64 bits) (1000 : Int)) = giveE (held8 s) (Int.tmod (IntKind.wrap IntKind.i64 bits) (1000 : Int)) ∧ (0 : Int) = (↑(bestIx (held8 s) x) : Int) ∧ (1 : Int) = (↑x : Int) ∧ held8 s = held8 s ∧
  false = false ∧ giveV (held8 s) (Int.tmod (IntKind.wrap IntKind.i64 bits) (1000 : Int)) = giveV (held8 s) (Int.tmod (IntKind.wrap IntKind.i64 bits) (1000 : Int)) ∧ false = false) ∧ (1 : Nat) ≤ x ∧ x ≤ (8 : Nat)) ∧ ∀ (x :
  Nat), (1 : Nat) ≤ x ∧ x ≤ (8 : Nat) → IntKind.min IntKind.i64 ≤ (↑x : Int) ∧ (↑x : Int) ≤ IntKind.max IntKind.i64 ∧ IntKind.min IntKind.i64 ≤ (↑(bestIx (held8 s) x) : Int) ∧ (↑(bestIx (held8 s) x) : Int) ≤ IntKind.max
  IntKind.i64 → bif decide ((↑x : Int) < (8 : Int)) then (((0 : Int) ≤ (↑x : Int) ∧ (↑x : Int) < (↑(8 : Nat) : Int)) ∧ Int.toNat (↑x : Int) < (8 : Nat) ∧ ((0 : Int) ≤ (↑(bestIx (held8 s) x) : Int) ∧ (↑(bestIx (held8 s) x) :
  Int) < (↑(8 : Nat) : Int)) ∧ Int.toNat (↑(bestIx (held8 s) x) : Int) < (8 : Nat)) ∧ bif decide (List.getD (held8 s) (Int.toNat (↑(bestIx (held8 s) x) : Int)) (0 : Int) < List.getD (held8 s) (Int.toNat (↑x : Int)) (0 :
  Int)) then ∃ (y : Nat), (Int.tmod (IntKind.wrap IntKind.i64 bits) (1000 : Int) = Int.tmod (IntKind.wrap IntKind.i64 bits) (1000 : Int) ∧ (0 : Nat) = (0 : Nat) ∧ (0 : Nat) = (0 : Nat) ∧ giveE (held8 s) (Int.tmod
  (IntKind.wrap IntKind.i64 bits) (1000 : Int)) = giveE (held8 s) (Int.tmod (IntKind.wrap IntKind.i64 bits) (1000 : Int)) ∧ (↑x : Int) = (↑(bestIx (held8 s) y) : Int) ∧ IntKind.wrap IntKind.i64 ((↑x : Int) + (1 : Int)) =
  (↑y : Int) ∧ held8 s = held8 s ∧ false = false ∧ giveV (held8 s) (Int.tmod (IntKind.wrap IntKind.i64 bits) (1000 : Int)) = giveV (held8 s) (Int.tmod (IntKind.wrap IntKind.i64 bits) (1000 : Int)) ∧ false = false) ∧ ((1 :
  Nat) ≤ y ∧ y ≤ (8 : Nat)) ∧ (8 : Nat) - y < (8 : Nat) - x else ∃ (y : Nat), (Int.tmod (IntKind.wrap IntKind.i64 bits) (1000 : Int) = Int.tmod (IntKind.wrap IntKind.i64 bits) (1000 : Int) ∧ (0 : Nat) = (0 : Nat) ∧ (0 :
  Nat) = (0 : Nat) ∧ giveE (held8 s) (Int.tmod (IntKind.wrap IntKind.i64 bits) (1000 : Int)) = giveE (held8 s) (Int.tmod (IntKind.wrap IntKind.i64 bits) (1000 : Int)) ∧ (↑(bestIx (held8 s) x) : Int) = (↑(bestIx (held8 s) y)
  : Int) ∧ IntKind.wrap IntKind.i64 ((↑x : Int) + (1 : Int)) = (↑y : Int) ∧ held8 s = held8 s ∧ false = false ∧ giveV (held8 s) (Int.tmod (IntKind.wrap IntKind.i64 bits) (1000 : Int)) = giveV (held8 s) (Int.tmod
  (IntKind.wrap IntKind.i64 bits) (1000 : Int)) ∧ false = false) ∧ ((1 : Nat) ≤ y ∧ y ≤ (8 : Nat)) ∧ (8 : Nat) - y < (8 : Nat) - x else ∀ (b : Bool), decide (giveE (held8 s) (Int.tmod (IntKind.wrap IntKind.i64 bits) (1000 :
  Int)) = (0 : Int)) = b → ∀ (b_1 : Bool), (bif b then decide (giveE (held8 s) (0 : Int) = (0 : Int)) else false) = b_1 → ∀ (b_2 : Bool), decide (Int.tmod (IntKind.wrap IntKind.i64 bits) (1000 : Int) < (3 : Int)) = b_2 → ∀
  (b_3 : Bool), (bif b_1 then bif b_2 then true else decide ((0 : Int) < List.getD (giveV (held8 s) (Int.tmod (IntKind.wrap IntKind.i64 bits) (1000 : Int))) (Int.toNat (↑(bestIx (held8 s) x) : Int)) (0 : Int)) else false) =
  b_3 → ((b = true → b = true) ∧ (b = true → b = true) ∧ (b_1 = true → b_1 = true) ∧ ((b_1 && b_1 && !b_2) = true → (b_1 && b_1 && !b_2) = true ∧ (0 : Int) ≤ (↑(bestIx (held8 s) x) : Int) ∧ (↑(bestIx (held8 s) x) : Int) <
  (↑(8 : Nat) : Int)) ∧ ((b_1 && b_1 && !b_2) = true → (b_1 && b_1 && !b_2) = true ∧ Int.toNat (↑(bestIx (held8 s) x) : Int) < (8 : Nat)) ∧ ((b_1 && b_1 && !b_2) = true → (b_1 && b_1 && !b_2) = true) ∧ (b_1 = true → (b_1 &&
  b_1) = true ∧ (b_2 = false → (b_1 && b_1 && !b_2) = true)) ∧ (b_1 = true → b_1 = true) ∧ (b_3 = true → b_3 = true ∧ b_3 = true) ∧ (b_3 = true → b_3 = true)) ∧ (bif b_3 then Ty.eqb (Ty.arr (8 : Nat) (Ty.int IntKind.i64))
  (giveV (held8 s) (0 : Int)) ((0 : Int) :: List.replicate (nat_lit 7) (0 : Int)) else false) = true
theorem vc16 (s : List Int) (bits : Int) : P16 s bits = vcFun C16 (ann16 s bits) Go.Proofs.Try.f16 [⟨.arr 8 (.int .i64), s⟩, ⟨.int .u16, bits⟩] [] (out16 s bits) := by kernel_rfl

end Go.SL.A

namespace Go.SL.A
open Go Go.SL Go.SL.S

theorem pure16 (s : List Int) (bits : Int) (hw : s.length = 8 ∧ 0 ≤ bits ∧ bits ≤ 65535) : P16 s bits := by
  obtain ⟨hl, a1, a2⟩ := hw
  unfold P16
  rw [w64 (n := bits) (by omega) (by omega)]
  have d1 := tdm bits (k := 1000) (by decide)
  have hr := held8_right s
  have hB : 0 ≤ bits.tmod 1000 ∧ bits.tmod 1000 ≤ 1048576 := by omega
  clear d1
  generalize bits.tmod 1000 = B at *
  obtain ⟨hE, hV⟩ := giveV_ok hr hB
  obtain ⟨hE0, hV0⟩ := giveV_ok (bits := 0) hr (by omega)
  generalize held8 s = h at *
  rw [give_none] at hV0
  simp only [hE, hE0, hV, hV0, decide_true, cond_true, eq_self, true_and, and_true, Int.toNat_natCast]
  have e1 : bestIx h 1 = 0 := by rw [bestIx, bestIx]; split <;> rfl
  refine ⟨by decide, 1, ⟨⟨by rw [e1]; rfl, rfl⟩, by omega, by omega⟩, fun i hi _ => ?_⟩
  obtain ⟨s1, s2⟩ := bestIx_spec h i hi.1
  by_cases h8 : (i : Int) < 8
  · simp only [h8, decide_true, cond_true]
    refine ⟨⟨by omega, by omega, by omega, by omega⟩, ?_⟩
    by_cases hlt : h.getD (bestIx h i) 0 < h.getD i 0
    · simp only [hlt, decide_true, cond_true]
      refine ⟨i + 1, ⟨?_, step_i (by omega)⟩, ⟨by omega, by omega⟩, by omega⟩
      rw [bestIx, if_pos hlt]
    · simp only [hlt, decide_false, cond_false]
      refine ⟨i + 1, ⟨?_, step_i (by omega)⟩, ⟨by omega, by omega⟩, by omega⟩
      rw [bestIx, if_neg hlt]
  · have : i = 8 := by omega
    subst this
    simp only [h8, decide_false, cond_false]
    rintro _ rfl
    intro b1 hb1 b2 hb2 b3 hb3
    simp only [cond_true] at hb1
    subst hb1
    simp only [cond_true] at hb3
    have hb3' : b3 = true := by
      rw [← hb3, ← hb2]
      by_cases h3 : B < 3
      · simp [h3]
      · have := give_first (h := h) (n := B) (by omega)
        simp only [this, h3, decide_true, decide_false, cond_false]
    subst hb3'
    refine ⟨⟨fun h => h, fun h => h, fun h => h, fun h => ⟨h, by omega⟩, fun h => ⟨h, by omega⟩, fun h => h, fun _ => ⟨rfl, fun h => by subst h; rfl⟩, fun h => h, fun h => ⟨h, h⟩, fun h => h⟩, ?_⟩
    simp only [cond_true]
    decide
end Go.SL.A

/- Functions do what they are held to do. -/
namespace Go.SL.A
open Go Go.SL Go.SL.S
theorem snd16 : Sound Go.Proofs.Try.prog G16 := snd55.add ⟨_, Go.Proofs.Try.func16, by kernel_rfl, by kernel_rfl⟩ (by
  intro args ins out h hp
  unfold sp16 at h
  split at h
  · rename_i s bits
    cases h
    exact vcFun_ok (C := C16) good snd55 methOk18 mix Go.Proofs.Try.func16 (ann16 s bits) (fun hw => by rw [← vc16 s bits]; exact pure16 s bits (hw16 hw))
  · cases h)

end Go.SL.A

/- GiveMore: the law returns true, whatever its arguments; each argument reads afterwards as before. No condition. -/
namespace Go.Proofs.Ythhfccnhkadkcaa
open Go Go.SL Go.SL.S Go.ChangeShapes Go.WideShapes Go.ChangeAt Go.WideMaps Go.WideElems Go.RowKit
set_option maxRecDepth 100000

theorem parsT : ((Go.Proofs.Try.f16.params.toList).all fun t => Nat.blt t Go.Proofs.Try.prog.types.size) = true := by kernel_rfl
theorem parsL : Go.Proofs.Try.f16.params.toList = [64, 65] := by kernel_rfl
theorem law_pure : ∀ avs bls, argsOk Go.SL.A.D Go.Proofs.Try.f16.params.toList 0 avs bls → VCall Go.Proofs.Try.prog 16 avs bls ⟨[], .v .bool true, [], []⟩ := by
  rw [parsL]
  intro avs bls h
  replace h : ∃ (t : Ty) (x : t.I) (avs' : List AV), Go.SL.A.D.ty 64 = some t ∧ avs = ⟨t, x⟩ :: avs' ∧ argsOk Go.SL.A.D [65] 0 avs' bls := h
  obtain ⟨t, x0, avs, ht, rfl, h⟩ := h
  obtain rfl : .arr 8 (.int .i64) = t := Option.some.inj ((show (some (.arr 8 (.int .i64)) : Option Ty) = Go.SL.A.D.ty 64 by kernel_rfl).trans ht)
  replace h : ∃ (t : Ty) (x : t.I) (avs' : List AV), Go.SL.A.D.ty 65 = some t ∧ avs = ⟨t, x⟩ :: avs' ∧ argsOk Go.SL.A.D [] 0 avs' bls := h
  obtain ⟨t, x1, avs, ht, rfl, h⟩ := h
  obtain rfl : .int .u16 = t := Option.some.inj ((show (some (.int .u16) : Option Ty) = Go.SL.A.D.ty 65 by kernel_rfl).trans ht)
  obtain ⟨rfl, rfl⟩ : avs = [] ∧ bls = [] := h
  have q := (Go.SL.A.snd16 16 Go.SL.A.sp16 rfl).2 [⟨.arr 8 (.int .i64), x0⟩, ⟨.int .u16, x1⟩] [] _ rfl (trivial)
  exact q

theorem lifted (os : Os) (started : os.Started) (H : Type) (enc : TypeId × Value → H) :
    ReturnsInHanded {} Go.Proofs.Try.checked os 16 .any (Rows.giveMoreSpec.pre6 enc Go.Proofs.Try.prog Go.Proofs.Try.f16 Rows.giveMoreRow.domain false) (Rows.giveMoreSpec.post enc Go.Proofs.Try.prog Go.Proofs.Try.f16 false true false false) := by
  refine returnsInHanded_of_change (C := Go.Proofs.Try.checked) Seat.own started (by kernel_rfl) Go.Proofs.Try.func16
    (ChangeSpec.witness6 (enc := enc) (C := Go.Proofs.Try.checked) false ⟨#[], #[.agg (Array.replicate 8 (.int .i64 0)), .int .u16 0], []⟩ 8 (by kernel_rfl) (by kernel_rfl) (by kernel_rfl) (by kernel_rfl)) ?_
  intro W base args ds gs before hval hW _ _
  refine law_calls (D := Go.SL.A.D) Go.SL.A.good Seat.kids Seat.slicesFull (fun t ht => Nat.le_of_ble_eq_true (List.all_eq_true.1 parsT t ht)) (by kernel_rfl) (show Go.Proofs.Try.f16.resultTypes = #[4] by kernel_rfl) Go.Proofs.Try.underlying4 rfl (fun ds h => ?_) law_pure (fun _ _ h => by cases (show none = some _ from h)) hval hW
  have h : ds.length = 2 := h
  match ds, h with
  | [_, _], _ => rfl

theorem joined : joinedFacts Go.Proofs.Try.prog 16 Go.Proofs.Try.f16 Rows.giveMoreSpec Rows.giveMoreRow = true := by
  unfold joinedFacts
  exact (andT (andT (andT (andT (andT (andT (andT (andT (andT (andT (andT (andT (andT (andT (andT (andT (andT (andT (andT (andT (andT (andT (andT (andT (andT (andT (andT (andT (andT (andT (andT (by as_aux_lemma => kernel_rfl) Seat.laidOut) Seat.mapsRowed) (by as_aux_lemma => kernel_rfl)) (by as_aux_lemma => kernel_rfl)) (by as_aux_lemma => kernel_rfl)) Seat.stops) (by as_aux_lemma => kernel_rfl)) Seat.knobs) (by as_aux_lemma => kernel_rfl)) (by as_aux_lemma => kernel_rfl)) (by as_aux_lemma => kernel_rfl)) (by as_aux_lemma => kernel_rfl)) (by as_aux_lemma => kernel_rfl)) (by as_aux_lemma => kernel_rfl)) (by as_aux_lemma => kernel_rfl)) (by as_aux_lemma => kernel_rfl)) (by as_aux_lemma => kernel_rfl)) (by as_aux_lemma => kernel_rfl)) (by as_aux_lemma => kernel_rfl)) (by as_aux_lemma => kernel_rfl)) (by as_aux_lemma => kernel_rfl)) (by as_aux_lemma => kernel_rfl)) (by as_aux_lemma => kernel_rfl)) Seat.heard) Seat.mayEnter) (by rw [Seat.lifts]; rfl)) (by rw [Seat.made]; rfl)) (by as_aux_lemma => kernel_rfl)) (by as_aux_lemma => kernel_rfl)) (by as_aux_lemma => kernel_rfl)) (by as_aux_lemma => kernel_rfl))

theorem giveMore_holds : Rows.GiveMoreSaid :=
  OpenClaim.holds_of_wide 16 Go.Proofs.Try.f16 rfl rfl rfl rfl rfl rfl rfl ⟨rfl, rfl, rfl, rfl, rfl⟩ rfl rfl rfl rfl rfl (by kernel_rfl) Go.Proofs.Try.func16 joined
    (of_decide_eq_true (by kernel_rfl)) (by unfold Func.isWrapper; first | (rw [if_pos (by decide +kernel)]; kernel_rfl) | (rw [if_neg (by decide +kernel)]; exact ⟨rfl, rfl⟩))
    (fun os started H enc _ => lifted os started H enc)

#print axioms giveMore_holds
end Go.Proofs.Ythhfccnhkadkcaa
