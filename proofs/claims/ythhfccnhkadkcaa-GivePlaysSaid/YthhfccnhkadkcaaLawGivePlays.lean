/- GivePlays returns true, whatever its arguments, which read afterwards as before: no condition. -/
import Derived.Test.YthhfccnhkadkcaaRows
import Derived.Test.YthhfccnhkadkcaaGive
import Derived.Test.YthhfccnhkadkcaaKb
import Derived.Test.YthhfccnhkadkcaaT

/- Functions and what they are held to do: bound to their code. -/
namespace Go.SL.A
open Go Go.SL Go.SL.S
set_option maxRecDepth 100000
noncomputable def C18 : Ctx := ⟨Go.Proofs.Try.prog, D, G55, meth18, fun _ => []⟩
def ann18 (s : List Int) (bits _z : Int) : Nat → St → Option Ann := fun _ _ => some ⟨Nat, [1, 3, 8, 9], [0, 1], fun i => [(11, .v (.int .i64) (i : Int)), (10, .v (.int .i64) (sumC ((giveV s bits).take i)))], fun _ => [], fun i => i ≤ 8, fun i => 8 - i⟩
def out18 (_s : List Int) (_bits _z : Int) : COut := ⟨[], .v .bool true, [], []⟩
def sp18 : Spec := fun args ins => match args, ins with
  | [⟨.arr 8 (.int .i64), s⟩, ⟨.int .i64, bits⟩, ⟨.int .i64, z⟩], [] => some (out18 s bits z)
  | _, _ => none
def G18 := addG G55 18 sp18
def P18 (s : List Int) (bits z : Int) : Prop :=
  ∀ (b : Bool), decide ((12 : Int) ≤ z) = b → ((b = true → b = true) ∧ (b = true → b = true)) ∧ bif bif b then decide (z ≤ (24 : Int)) else false then bif !decide (giveB z = IntKind.wrap IntKind.i64 (IntKind.wrap
  IntKind.i64 ((8 : Int) * z) - (64 : Int))) then false = true else ∀ (b : Bool), (!rightF s) = b → ∀ (b_1 : Bool), (bif b then true else decide (bits < (0 : Int))) = b_1 → (((!b) = true → (!b) = true) ∧ (b = false → (!b) =
  true) ∧ ((!b_1) = true → (!b_1) = true) ∧ (b_1 = false → (!b_1) = true)) ∧ bif bif b_1 then true else decide ((1048576 : Int) < bits) then ∀ (b : Bool), decide (giveE s bits = (1 : Int)) = b → ((b = true → b = true ∧ b =
  true) ∧ (b = true → b = true)) ∧ (bif b then Ty.eqb (Ty.arr (8 : Nat) (Ty.int IntKind.i64)) (giveV s bits) ((0 : Int) :: List.replicate (nat_lit 7) (0 : Int)) else false) = true else ∃ (x : Nat), ((bits = bits ∧ (0 : Nat)
  = (0 : Nat) ∧ (0 : Nat) = (0 : Nat) ∧ giveE s bits = giveE s bits ∧ (0 : Int) = sumC (List.take x (giveV s bits)) ∧ (0 : Int) = (↑x : Int) ∧ s = s ∧ false = false ∧ giveV s bits = giveV s bits ∧ false = false) ∧ x ≤ (8 :
  Nat)) ∧ ∀ (x : Nat), x ≤ (8 : Nat) → IntKind.min IntKind.i64 ≤ (↑x : Int) ∧ (↑x : Int) ≤ IntKind.max IntKind.i64 ∧ IntKind.min IntKind.i64 ≤ sumC (List.take x (giveV s bits)) ∧ sumC (List.take x (giveV s bits)) ≤
  IntKind.max IntKind.i64 → bif decide ((↑x : Int) < (8 : Int)) then (((0 : Int) ≤ (↑x : Int) ∧ (↑x : Int) < (↑(8 : Nat) : Int)) ∧ Int.toNat (↑x : Int) < (8 : Nat) ∧ (0 : Int) ≤ List.getD (giveV s bits) (Int.toNat (↑x :
  Int)) (0 : Int) ∧ List.getD (giveV s bits) (Int.toNat (↑x : Int)) (0 : Int) ≤ (12 : Int)) ∧ ∃ (y : Nat), (bits = bits ∧ (0 : Nat) = (0 : Nat) ∧ (0 : Nat) = (0 : Nat) ∧ giveE s bits = giveE s bits ∧ IntKind.wrap
  IntKind.i64 (sumC (List.take x (giveV s bits)) + bitsF (List.getD (giveV s bits) (Int.toNat (↑x : Int)) (0 : Int))) = sumC (List.take y (giveV s bits)) ∧ IntKind.wrap IntKind.i64 ((↑x : Int) + (1 : Int)) = (↑y : Int) ∧ s
  = s ∧ false = false ∧ giveV s bits = giveV s bits ∧ false = false) ∧ y ≤ (8 : Nat) ∧ (8 : Nat) - y < (8 : Nat) - x else bif decide (giveE s bits = (0 : Int)) then bif Ty.eqb (Ty.arr (8 : Nat) (Ty.int IntKind.i64)) (giveV
  s bits) (refF s bits) then (rightF s = true ∧ (0 : Int) ≤ bits ∧ bits ≤ (1048576 : Int)) ∧ decide (sumC (giveV s bits) = sumC (List.take x (giveV s bits))) = true else (rightF s = true ∧ ((0 : Int) ≤ bits ∧ bits ≤
  (1048576 : Int)) ∧ (false = true → false = true)) ∧ false = true else ((false = true → false = true) ∧ (false = true → false = true)) ∧ false = true else bif !decide (giveB z = (0 : Int)) then false = true else ∀ (b :
  Bool), (!rightF s) = b → ∀ (b_1 : Bool), (bif b then true else decide (bits < (0 : Int))) = b_1 → (((!b) = true → (!b) = true) ∧ (b = false → (!b) = true) ∧ ((!b_1) = true → (!b_1) = true) ∧ (b_1 = false → (!b_1) = true))
  ∧ bif bif b_1 then true else decide ((1048576 : Int) < bits) then ∀ (b : Bool), decide (giveE s bits = (1 : Int)) = b → ((b = true → b = true ∧ b = true) ∧ (b = true → b = true)) ∧ (bif b then Ty.eqb (Ty.arr (8 : Nat)
  (Ty.int IntKind.i64)) (giveV s bits) ((0 : Int) :: List.replicate (nat_lit 7) (0 : Int)) else false) = true else ∃ (x : Nat), ((bits = bits ∧ (0 : Nat) = (0 : Nat) ∧ (0 : Nat) = (0 : Nat) ∧ giveE s bits = giveE s bits ∧
  (0 : Int) = sumC (List.take x (giveV s bits)) ∧ (0 : Int) = (↑x : Int) ∧ s = s ∧ false = false ∧ giveV s bits = giveV s bits ∧ false = false) ∧ x ≤ (8 : Nat)) ∧ ∀ (x : Nat), x ≤ (8 : Nat) → IntKind.min IntKind.i64 ≤ (↑x :
  Int) ∧ (↑x : Int) ≤ IntKind.max IntKind.i64 ∧ IntKind.min IntKind.i64 ≤ sumC (List.take x (giveV s bits)) ∧ sumC (List.take x (giveV s bits)) ≤ IntKind.max IntKind.i64 → bif decide ((↑x : Int) < (8 : Int)) then (((0 :
  Int) ≤ (↑x : Int) ∧ (↑x : Int) < (↑(8 : Nat) : Int)) ∧ Int.toNat (↑x : Int) < (8 : Nat) ∧ (0 : Int) ≤ List.getD (giveV s bits) (Int.toNat (↑x : Int)) (0 : Int) ∧ List.getD (giveV s bits) (Int.toNat (↑x : Int)) (0 : Int) ≤
  (12 : Int)) ∧ ∃ (y : Nat), (bits = bits ∧ (0 : Nat) = (0 : Nat) ∧ (0 : Nat) = (0 : Nat) ∧ giveE s bits = giveE s bits ∧ IntKind.wrap IntKind.i64 (sumC (List.take x (giveV s bits)) + bitsF (List.getD (giveV s bits)
  (Int.toNat (↑x : Int)) (0 : Int))) = sumC (List.take y (giveV s bits)) ∧ IntKind.wrap IntKind.i64 ((↑x : Int) + (1 : Int)) = (↑y : Int) ∧ s = s ∧ false = false ∧ giveV s bits = giveV s bits ∧ false = false) ∧ y ≤ (8 :
  Nat) ∧ (8 : Nat) - y < (8 : Nat) - x else bif decide (giveE s bits = (0 : Int)) then bif Ty.eqb (Ty.arr (8 : Nat) (Ty.int IntKind.i64)) (giveV s bits) (refF s bits) then (rightF s = true ∧ (0 : Int) ≤ bits ∧ bits ≤
  (1048576 : Int)) ∧ decide (sumC (giveV s bits) = sumC (List.take x (giveV s bits))) = true else (rightF s = true ∧ ((0 : Int) ≤ bits ∧ bits ≤ (1048576 : Int)) ∧ (false = true → false = true)) ∧ false = true else ((false =
  true → false = true) ∧ (false = true → false = true)) ∧ false = true
theorem vc18 (s : List Int) (bits z : Int) : P18 s bits z = vcFun C18 (ann18 s bits z) Go.Proofs.Try.f18 [⟨.arr 8 (.int .i64), s⟩, ⟨.int .i64, bits⟩, ⟨.int .i64, z⟩] [] (out18 s bits z) := by kernel_rfl

end Go.SL.A

namespace Go.SL.A
open Go Go.SL Go.SL.S

theorem rest18 (s : List Int) (bits : Int) (hl : s.length = 8) : ∀ b, (!rightF s) = b → ∀ b1, (bif b then true else decide (bits < 0)) = b1 →
    (((!b) = true → (!b) = true) ∧ (b = false → (!b) = true) ∧ ((!b1) = true → (!b1) = true) ∧ (b1 = false → (!b1) = true)) ∧
    ((bif b1 then true else decide (1048576 < bits)) = true → giveE s bits = 1 ∧ giveV s bits = z8) ∧
    ((bif b1 then true else decide (1048576 < bits)) = false → rightF s = true ∧ (0 ≤ bits ∧ bits ≤ 1048576) ∧ giveE s bits = 0 ∧ giveV s bits = giveF s bits) := by
  intro b hb b1 hb1
  refine ⟨by cases b <;> cases b1 <;> simp, fun h => ?_, fun h => ?_⟩
  · have hE : giveE s bits = 1 := by
      unfold giveE
      rw [if_pos]
      cases hr : rightF s with
      | false => exact .inl rfl
      | true =>
        rw [hr] at hb
        subst hb
        simp only [Bool.not_true, cond_false] at hb1
        subst hb1
        by_cases h1 : bits < 0
        · exact .inr (.inl h1)
        · simp only [h1, decide_false, cond_false, decide_eq_true_eq] at h
          exact .inr (.inr h)
    exact ⟨hE, by unfold giveV; rw [hE, if_neg (by decide)]⟩
  · cases hr : rightF s with
    | false =>
      rw [hr] at hb
      subst hb
      simp only [Bool.not_false, cond_true] at hb1
      subst hb1
      cases h
    | true =>
      rw [hr] at hb
      subst hb
      simp only [Bool.not_true, cond_false] at hb1
      subst hb1
      by_cases h1 : bits < 0
      · simp only [h1, decide_true, cond_true] at h; cases h
      · simp only [h1, decide_false, cond_false, decide_eq_false_iff_not] at h
        have h2 : 0 ≤ bits ∧ bits ≤ 1048576 := by omega
        exact ⟨rfl, h2, giveV_ok hr h2⟩

theorem sum18 {k : List Int} (hl : k.length = 8) {i : Nat} (h : i < 8) : IntKind.i64.wrap (sumC (k.take i) + bitsF (k.getD i 0)) = sumC (k.take (i + 1)) := by
  have h1 := sumC_fits (k.take i)
  have h2 := bitsF_fits (k.getD i 0)
  have h3 : (k.take i).length ≤ 8 := by simp; omega
  rw [w64 (by omega) (by omega), take_snoc' 0 (by omega), sumC_append]
  simp [sumC]

theorem pure18 (s : List Int) (bits z : Int) (hl : s.length = 8) : P18 s bits z := by
  unfold P18
  have hrest := rest18 s bits hl
  have hz : ∀ b, decide (12 ≤ z) = b → (bif b then decide (z ≤ 24) else false) = true → giveB z = IntKind.i64.wrap (IntKind.i64.wrap (8 * z) - 64) := by
    rintro _ rfl h
    by_cases h1 : 12 ≤ z
    · simp only [h1, decide_true, cond_true, decide_eq_true_eq] at h
      unfold giveB
      rw [if_neg (by omega), w64 (n := 8 * z) (by omega) (by omega), w64 (by omega) (by omega)]
    · simp only [h1, decide_false, cond_false] at h; cases h
  have hz0 : ∀ b, decide (12 ≤ z) = b → (bif b then decide (z ≤ 24) else false) = false → giveB z = 0 := by
    rintro _ rfl h
    by_cases h1 : 12 ≤ z
    · simp only [h1, decide_true, cond_true, decide_eq_false_iff_not] at h
      unfold giveB
      rw [if_pos (by omega)]
    · unfold giveB
      rw [if_pos (by omega)]
  intro b hb
  refine ⟨⟨fun h => h, fun h => h⟩, ?_⟩
  have hz := hz b hb
  have hz0 := hz0 b hb
  cases hc : (bif b then decide (z ≤ 24) else false) with
  | true =>
    have hz := hz hc
    simp only [hc, ← hz, decide_true, Bool.not_true, cond_true, cond_false]
    intro c hc c1 hc1
    obtain ⟨q1, q2, q3⟩ := hrest c hc c1 hc1
    refine ⟨q1, ?_⟩
    cases hg : (bif c1 then true else decide (1048576 < bits)) with
    | true =>
      obtain ⟨e1, e2⟩ := q2 hg
      simp only [e1, e2, decide_true, cond_true]
      rintro _ rfl
      simp only [forall_const, and_self, true_and, cond_true]
      decide
    | false =>
      obtain ⟨e1, e2, e3, e4⟩ := q3 hg
      obtain ⟨left, g1, g2, g3, g4⟩ := give_end s e2.1
      simp only [e3, e4, decide_true, cond_true, cond_false, eq_self, true_and, and_true, Int.toNat_natCast]
      refine ⟨0, ⟨⟨rfl, rfl⟩, by omega⟩, fun i hi _ => ?_⟩
      by_cases h8 : (i : Int) < 8
      · simp only [h8, decide_true, cond_true]
        obtain ⟨r1, -⟩ := g4 i (by omega)
        exact ⟨⟨by omega, by omega, r1⟩, i + 1, ⟨sum18 g2 (by omega), step_i (by omega)⟩, by omega, by omega⟩
      · have : i = 8 := by omega
        subst this
        simp only [h8, decide_false, cond_false]
        rw [← give_eq s e2.1, eqbA g2 g2]
        simp only [decide_true, cond_true]
        rw [List.take_of_length_le (by omega)]
        exact ⟨⟨e1, e2⟩, by simp⟩
  | false =>
    have hz0 := hz0 hc
    simp only [hc, hz0, decide_true, Bool.not_true, cond_true, cond_false]
    intro c hc c1 hc1
    obtain ⟨q1, q2, q3⟩ := hrest c hc c1 hc1
    refine ⟨q1, ?_⟩
    cases hg : (bif c1 then true else decide (1048576 < bits)) with
    | true =>
      obtain ⟨e1, e2⟩ := q2 hg
      simp only [e1, e2, decide_true, cond_true]
      rintro _ rfl
      simp only [forall_const, and_self, true_and, cond_true]
      decide
    | false =>
      obtain ⟨e1, e2, e3, e4⟩ := q3 hg
      obtain ⟨left, g1, g2, g3, g4⟩ := give_end s e2.1
      simp only [e3, e4, decide_true, cond_true, cond_false, eq_self, true_and, and_true, Int.toNat_natCast]
      refine ⟨0, ⟨⟨rfl, rfl⟩, by omega⟩, fun i hi _ => ?_⟩
      by_cases h8 : (i : Int) < 8
      · simp only [h8, decide_true, cond_true]
        obtain ⟨r1, -⟩ := g4 i (by omega)
        exact ⟨⟨by omega, by omega, r1⟩, i + 1, ⟨sum18 g2 (by omega), step_i (by omega)⟩, by omega, by omega⟩
      · have : i = 8 := by omega
        subst this
        simp only [h8, decide_false, cond_false]
        rw [← give_eq s e2.1, eqbA g2 g2]
        simp only [decide_true, cond_true]
        rw [List.take_of_length_le (by omega)]
        exact ⟨⟨e1, e2⟩, by simp⟩
end Go.SL.A

/- Functions do what they are held to do. -/
namespace Go.SL.A
open Go Go.SL Go.SL.S
theorem snd18 : Sound Go.Proofs.Try.prog G18 := snd55.add ⟨_, Go.Proofs.Try.func18, by kernel_rfl, by kernel_rfl⟩ (by
  intro args ins out h hp
  unfold sp18 at h
  split at h
  · rename_i s bits z
    cases h
    exact vcFun_ok (C := C18) good snd55 methOk18 mix Go.Proofs.Try.func18 (ann18 s bits z) (fun hw => by rw [← vc18 s bits z]; exact pure18 s bits z (hw18 hw))
  · cases h)

end Go.SL.A

/- GivePlays: the law returns true, whatever its arguments; each argument reads afterwards as before. No condition. -/
namespace Go.Proofs.Ythhfccnhkadkcaa
open Go Go.SL Go.SL.S Go.ChangeShapes Go.WideShapes Go.ChangeAt Go.WideMaps Go.WideElems Go.RowKit
set_option maxRecDepth 100000

theorem parsT : ((Go.Proofs.Try.f18.params.toList).all fun t => Nat.blt t Go.Proofs.Try.prog.types.size) = true := by kernel_rfl
theorem parsL : Go.Proofs.Try.f18.params.toList = [64, 3, 3] := by kernel_rfl
theorem law_pure : ∀ avs bls, argsOk Go.SL.A.D Go.Proofs.Try.f18.params.toList 0 avs bls → VCall Go.Proofs.Try.prog 18 avs bls ⟨[], .v .bool true, [], []⟩ := by
  rw [parsL]
  intro avs bls h
  replace h : ∃ (t : Ty) (x : t.I) (avs' : List AV), Go.SL.A.D.ty 64 = some t ∧ avs = ⟨t, x⟩ :: avs' ∧ argsOk Go.SL.A.D [3, 3] 0 avs' bls := h
  obtain ⟨t, x0, avs, ht, rfl, h⟩ := h
  obtain rfl : .arr 8 (.int .i64) = t := Option.some.inj ((show (some (.arr 8 (.int .i64)) : Option Ty) = Go.SL.A.D.ty 64 by kernel_rfl).trans ht)
  replace h : ∃ (t : Ty) (x : t.I) (avs' : List AV), Go.SL.A.D.ty 3 = some t ∧ avs = ⟨t, x⟩ :: avs' ∧ argsOk Go.SL.A.D [3] 0 avs' bls := h
  obtain ⟨t, x1, avs, ht, rfl, h⟩ := h
  obtain rfl : .int .i64 = t := Option.some.inj ((show (some (.int .i64) : Option Ty) = Go.SL.A.D.ty 3 by kernel_rfl).trans ht)
  replace h : ∃ (t : Ty) (x : t.I) (avs' : List AV), Go.SL.A.D.ty 3 = some t ∧ avs = ⟨t, x⟩ :: avs' ∧ argsOk Go.SL.A.D [] 0 avs' bls := h
  obtain ⟨t, x2, avs, ht, rfl, h⟩ := h
  obtain rfl : .int .i64 = t := Option.some.inj ((show (some (.int .i64) : Option Ty) = Go.SL.A.D.ty 3 by kernel_rfl).trans ht)
  obtain ⟨rfl, rfl⟩ : avs = [] ∧ bls = [] := h
  have q := (Go.SL.A.snd18 18 Go.SL.A.sp18 rfl).2 [⟨.arr 8 (.int .i64), x0⟩, ⟨.int .i64, x1⟩, ⟨.int .i64, x2⟩] [] _ rfl (trivial)
  exact q

theorem lifted (os : Os) (started : os.Started) (H : Type) (enc : TypeId × Value → H) :
    ReturnsInHanded {} Go.Proofs.Try.checked os 18 .any (Rows.givePlaysSpec.pre6 enc Go.Proofs.Try.prog Go.Proofs.Try.f18 Rows.givePlaysRow.domain false) (Rows.givePlaysSpec.post enc Go.Proofs.Try.prog Go.Proofs.Try.f18 false true false false) := by
  refine returnsInHanded_of_change (C := Go.Proofs.Try.checked) Seat.own started (by kernel_rfl) Go.Proofs.Try.func18
    (ChangeSpec.witness6 (enc := enc) (C := Go.Proofs.Try.checked) false ⟨#[], #[.agg (Array.replicate 8 (.int .i64 0)), .int .i64 0, .int .i64 0], []⟩ 8 (by kernel_rfl) (by kernel_rfl) (by kernel_rfl) (by kernel_rfl)) ?_
  intro W base args ds gs before hval hW _ _
  refine law_calls (D := Go.SL.A.D) Go.SL.A.good Seat.kids Seat.slicesFull (fun t ht => Nat.le_of_ble_eq_true (List.all_eq_true.1 parsT t ht)) (by kernel_rfl) (show Go.Proofs.Try.f18.resultTypes = #[4] by kernel_rfl) Go.Proofs.Try.underlying4 rfl (fun ds h => ?_) law_pure (fun _ _ h => by cases (show none = some _ from h)) hval hW
  have h : ds.length = 3 := h
  match ds, h with
  | [_, _, _], _ => rfl

theorem joined : joinedFacts Go.Proofs.Try.prog 18 Go.Proofs.Try.f18 Rows.givePlaysSpec Rows.givePlaysRow = true := by
  unfold joinedFacts
  exact (andT (andT (andT (andT (andT (andT (andT (andT (andT (andT (andT (andT (andT (andT (andT (andT (andT (andT (andT (andT (andT (andT (andT (andT (andT (andT (andT (andT (andT (andT (andT (by as_aux_lemma => kernel_rfl) Seat.laidOut) Seat.mapsRowed) (by as_aux_lemma => kernel_rfl)) (by as_aux_lemma => kernel_rfl)) (by as_aux_lemma => kernel_rfl)) Seat.stops) (by as_aux_lemma => kernel_rfl)) Seat.knobs) (by as_aux_lemma => kernel_rfl)) (by as_aux_lemma => kernel_rfl)) (by as_aux_lemma => kernel_rfl)) (by as_aux_lemma => kernel_rfl)) (by as_aux_lemma => kernel_rfl)) (by as_aux_lemma => kernel_rfl)) (by as_aux_lemma => kernel_rfl)) (by as_aux_lemma => kernel_rfl)) (by as_aux_lemma => kernel_rfl)) (by as_aux_lemma => kernel_rfl)) (by as_aux_lemma => kernel_rfl)) (by as_aux_lemma => kernel_rfl)) (by as_aux_lemma => kernel_rfl)) (by as_aux_lemma => kernel_rfl)) (by as_aux_lemma => kernel_rfl)) Seat.heard) Seat.mayEnter) (by rw [Seat.lifts]; rfl)) (by rw [Seat.made]; rfl)) (by as_aux_lemma => kernel_rfl)) (by as_aux_lemma => kernel_rfl)) (by as_aux_lemma => kernel_rfl)) (by as_aux_lemma => kernel_rfl))

theorem givePlays_holds : Rows.GivePlaysSaid :=
  OpenClaim.holds_of_wide 18 Go.Proofs.Try.f18 rfl rfl rfl rfl rfl rfl rfl ⟨rfl, rfl, rfl, rfl, rfl⟩ rfl rfl rfl rfl rfl (by kernel_rfl) Go.Proofs.Try.func18 joined
    (of_decide_eq_true (by kernel_rfl)) (by unfold Func.isWrapper; first | (rw [if_pos (by decide +kernel)]; kernel_rfl) | (rw [if_neg (by decide +kernel)]; exact ⟨rfl, rfl⟩))
    (fun os started H enc _ => lifted os started H enc)

#print axioms givePlays_holds
end Go.Proofs.Ythhfccnhkadkcaa
