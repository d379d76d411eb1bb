/- PulseExact returns true, whatever its arguments, which read afterwards as before: no condition. -/
import Derived.Test.YthhfccnhkadkcaaRows
import Derived.Test.YthhfccnhkadkcaaPulse
import Derived.Test.YthhfccnhkadkcaaKb
import Derived.Test.YthhfccnhkadkcaaT

/- Functions and what they are held to do: bound to their code. -/
namespace Go.SL.A
open Go Go.SL Go.SL.S
set_option maxRecDepth 100000
noncomputable def C19 : Ctx := ⟨Go.Proofs.Try.prog, D, G50, meth14, fun _ => []⟩
def ann19 (k i s : Int) : Nat → St → Option Ann := fun _ _ => none
def out19 (k i s : Int) : COut := ⟨[], .v .bool true, [], []⟩
def sp19 : Spec := fun args ins => match args, ins with
  | [⟨.int .u8, k⟩, ⟨.int .u32, i⟩, ⟨.int .u8, s⟩], [] => some (out19 k i s)
  | _, _ => none
def G19 := addG G50 19 sp19
def P19 (k i s : Int) : Prop :=
  ((13 : Int) ≠ (0 : Int) ∧ (16 : Int) ≠ (0 : Int)) ∧ countF (4 : Int) (Int.tmod (IntKind.wrap IntKind.i64 k) (13 : Int)) ≠ (0 : Int) ∧ bif !decide (vecE (4 : Int) (Int.tmod (IntKind.wrap IntKind.i64 k) (13 : Int))
  (Int.tmod (IntKind.wrap IntKind.i64 i) (countF (4 : Int) (Int.tmod (IntKind.wrap IntKind.i64 k) (13 : Int)))) = (0 : Int)) then false = true else ((4 : Nat) ≤ List.length (vecF (4 : Int) (Int.tmod (IntKind.wrap
  IntKind.i64 k) (13 : Int)) (Int.tmod (IntKind.wrap IntKind.i64 i) (countF (4 : Int) (Int.tmod (IntKind.wrap IntKind.i64 k) (13 : Int))))) ∧ (4 : Nat) ≤ List.length (vecF (4 : Int) (Int.tmod (IntKind.wrap IntKind.i64 k)
  (13 : Int)) (Int.tmod (IntKind.wrap IntKind.i64 i) (countF (4 : Int) (Int.tmod (IntKind.wrap IntKind.i64 k) (13 : Int)))))) ∧ ∀ (b : Bool), decide (findE (coefF (seg (vecF (4 : Int) (Int.tmod (IntKind.wrap IntKind.i64 k)
  (13 : Int)) (Int.tmod (IntKind.wrap IntKind.i64 i) (countF (4 : Int) (Int.tmod (IntKind.wrap IntKind.i64 k) (13 : Int))))) (0 : Nat) (4 : Nat)) (Int.tmod (IntKind.wrap IntKind.i64 s) (16 : Int))) (Int.tmod (IntKind.wrap
  IntKind.i64 s) (16 : Int)) (Int.tmod (IntKind.wrap IntKind.i64 k) (13 : Int)) = (0 : Int)) = b → bif bif b then Ty.eqb (Ty.arr (4 : Nat) (Ty.int IntKind.i64)) (findV (coefF (seg (vecF (4 : Int) (Int.tmod (IntKind.wrap
  IntKind.i64 k) (13 : Int)) (Int.tmod (IntKind.wrap IntKind.i64 i) (countF (4 : Int) (Int.tmod (IntKind.wrap IntKind.i64 k) (13 : Int))))) (0 : Nat) (4 : Nat)) (Int.tmod (IntKind.wrap IntKind.i64 s) (16 : Int))) (Int.tmod
  (IntKind.wrap IntKind.i64 s) (16 : Int)) (Int.tmod (IntKind.wrap IntKind.i64 k) (13 : Int))) (seg (vecF (4 : Int) (Int.tmod (IntKind.wrap IntKind.i64 k) (13 : Int)) (Int.tmod (IntKind.wrap IntKind.i64 i) (countF (4 : Int)
  (Int.tmod (IntKind.wrap IntKind.i64 k) (13 : Int))))) (0 : Nat) (4 : Nat)) else false then ((b = true → b = true ∧ b = true) ∧ (b = true → b = true)) ∧ decide (distF (coefF (seg (vecF (4 : Int) (Int.tmod (IntKind.wrap
  IntKind.i64 k) (13 : Int)) (Int.tmod (IntKind.wrap IntKind.i64 i) (countF (4 : Int) (Int.tmod (IntKind.wrap IntKind.i64 k) (13 : Int))))) (0 : Nat) (4 : Nat)) (Int.tmod (IntKind.wrap IntKind.i64 s) (16 : Int))) (seg (vecF
  (4 : Int) (Int.tmod (IntKind.wrap IntKind.i64 k) (13 : Int)) (Int.tmod (IntKind.wrap IntKind.i64 i) (countF (4 : Int) (Int.tmod (IntKind.wrap IntKind.i64 k) (13 : Int))))) (0 : Nat) (4 : Nat)) (Int.tmod (IntKind.wrap
  IntKind.i64 s) (16 : Int)) = (0 : Int)) = true else ((b = true → b = true ∧ b = true) ∧ (b = true → b = true) ∧ (false = true → false = true)) ∧ false = true
theorem vc19 (k i s : Int) : P19 k i s = vcFun C19 (ann19 k i s) Go.Proofs.Try.f19 [⟨.int .u8, k⟩, ⟨.int .u32, i⟩, ⟨.int .u8, s⟩] [] (out19 k i s) := by kernel_rfl

end Go.SL.A

namespace Go.SL.A
open Go Go.SL Go.SL.S

theorem eqb4 {a b : List Int} (ha : a.length = 4) (hb : b.length = 4) : (Ty.arr 4 (Ty.int .i64)).eqb a b = decide (a = b) := by
  obtain ⟨a0, a1, a2, a3, rfl⟩ := len4 ha
  obtain ⟨b0, b1, b2, b3, rfl⟩ := len4 hb
  have hr : List.range 4 = [0, 1, 2, 3] := by decide
  simp only [Ty.eqb, hr, List.all_cons, List.all_nil, Bool.and_true]
  rw [Bool.eq_iff_iff]
  simp

theorem absF_zero {x : Int} (h : absF x = 0) : x = 0 := by unfold absF at h; omega

theorem pure19 (k i s : Int) (hw : (0 ≤ k ∧ k ≤ 255) ∧ (0 ≤ i ∧ i ≤ 4294967295) ∧ 0 ≤ s ∧ s ≤ 255) : P19 k i s := by
  obtain ⟨⟨a1, a2⟩, ⟨b1, b2⟩, c1, c2⟩ := hw
  unfold P19
  rw [w64 (n := s) (by omega) (by omega), w64 (n := k) (by omega) (by omega), w64 (n := i) (by omega) (by omega)]
  have d1 := tdm s (k := 16) (by decide)
  have d2 := tdm k (k := 13) (by decide)
  have hS : 0 ≤ s.tmod 16 ∧ s.tmod 16 ≤ 15 := by omega
  have hK : 0 ≤ k.tmod 13 ∧ k.tmod 13 ≤ 12 := by omega
  clear d1 d2
  generalize s.tmod 16 = S at *
  generalize k.tmod 13 = K at *
  have hc := countF_fits 4 K
  have hcp : 1 ≤ countF 4 K := by
    unfold countF; rw [if_pos (may_iff.2 (by omega))]; exact cnt_pos 3 K.toNat
  have d3 := tdm i (k := countF 4 K) (by omega)
  have hI : 0 ≤ i.tmod (countF 4 K) ∧ i.tmod (countF 4 K) < countF 4 K := by omega
  clear d3
  generalize i.tmod (countF 4 K) = I at *
  obtain ⟨v1, v2, v3, v4⟩ := vec4 hK hI.1 hI.2
  generalize vecF 4 K I = v at *
  have hseg : seg v 0 4 = v := by unfold seg; rw [List.drop_zero, List.take_of_length_le (by omega)]
  have hm : mayF14 v S = true := by unfold mayF14; rw [v3, Bool.true_and, decide_eq_true_eq]; exact gain_pos hS
  have hh : heldF (coefF v S) = true := by
    unfold heldF
    rw [List.all_eq_true]
    intro x hx
    obtain ⟨j, hj, rfl⟩ := List.mem_iff_getElem.1 hx
    have := coefF_at v S j
    rw [List.getD_eq_getElem?_getD, List.getElem?_eq_getElem hj] at this
    simp only [Option.getD_some] at this
    simp only [decide_eq_true_eq]; omega
  have hcl : (coefF v S).length = 4 := by rw [coefF_may hm]; simp [v2]
  obtain ⟨hE, F⟩ := findV_ok hh hS hK
  have hg := gain_pos hS
  have hat : ∀ j, (coefF v S).getD j 0 = v.getD j 0 * gainF S := fun j => by rw [coefF_may hm, getD_map0]
  have hz : farF (coefF v S) v (gainF S) = 0 := by
    unfold farF; simp only [hat, Int.sub_self]; decide
  have hb := F.best v v4
  rw [hz] at hb
  have heq : findV (coefF v S) S K = v := by
    have hl := F.len
    generalize findV (coefF v S) S K = y at *
    have n : ∀ x, 0 ≤ absF x := fun x => (absF_le x).1
    unfold farF at hb
    have e : ∀ j, absF ((coefF v S).getD j 0 - y.getD j 0 * gainF S) = 0 → y.getD j 0 = v.getD j 0 := by
      intro j hj
      have := absF_zero hj
      rw [hat, ← Int.sub_mul] at this
      rcases Int.mul_eq_zero.1 this with h | h <;> omega
    have n0 := n ((coefF v S).getD 0 0 - y.getD 0 0 * gainF S)
    have n1 := n ((coefF v S).getD 1 0 - y.getD 1 0 * gainF S)
    have n2 := n ((coefF v S).getD 2 0 - y.getD 2 0 * gainF S)
    have n3 := n ((coefF v S).getD 3 0 - y.getD 3 0 * gainF S)
    have e0 := e 0 (by omega)
    have e1 := e 1 (by omega)
    have e2 := e 2 (by omega)
    have e3 := e 3 (by omega)
    obtain ⟨y0, y1, y2, y3, rfl⟩ := len4 hl
    obtain ⟨w0, w1, w2, w3, rfl⟩ := len4 v2
    simp only [List.getD_cons_zero, List.getD_cons_succ] at e0 e1 e2 e3
    rw [e0, e1, e2, e3]
  have hd : distF (coefF v S) v S = 0 := by rw [distF_far hS v3 hh, hz]
  simp only [v1, v2, hseg, hE, heq, hd, decide_true, Bool.not_true, cond_false]
  refine ⟨⟨by decide, by decide⟩, by omega, ⟨by omega, by omega⟩, ?_⟩
  rintro _ rfl
  rw [cond_true, eqb4 v2 v2]
  simp
end Go.SL.A

/- Functions do what they are held to do. -/
namespace Go.SL.A
open Go Go.SL Go.SL.S
theorem snd19 : Sound Go.Proofs.Try.prog G19 := snd50.add ⟨_, Go.Proofs.Try.func19, by kernel_rfl, by kernel_rfl⟩ (by
  intro args ins out h hp
  unfold sp19 at h
  split at h
  · rename_i k i s
    cases h
    exact vcFun_ok (C := C19) good snd50 methOk mix Go.Proofs.Try.func19 (ann19 k i s) (fun hw => by rw [← vc19 k i s]; exact pure19 k i s (hw19 hw))
  · cases h)

end Go.SL.A

/- PulseExact: the law returns true, whatever its arguments; each argument reads afterwards as before. No condition. -/
namespace Go.Proofs.Ythhfccnhkadkcaa
open Go Go.SL Go.SL.S Go.ChangeShapes Go.WideShapes Go.ChangeAt Go.WideMaps Go.WideElems Go.RowKit
set_option maxRecDepth 100000

theorem parsT : ((Go.Proofs.Try.f19.params.toList).all fun t => Nat.blt t Go.Proofs.Try.prog.types.size) = true := by kernel_rfl
theorem parsL : Go.Proofs.Try.f19.params.toList = [5, 42, 5] := by kernel_rfl
theorem law_pure : ∀ avs bls, argsOk Go.SL.A.D Go.Proofs.Try.f19.params.toList 0 avs bls → VCall Go.Proofs.Try.prog 19 avs bls ⟨[], .v .bool true, [], []⟩ := by
  rw [parsL]
  intro avs bls h
  replace h : ∃ (t : Ty) (x : t.I) (avs' : List AV), Go.SL.A.D.ty 5 = some t ∧ avs = ⟨t, x⟩ :: avs' ∧ argsOk Go.SL.A.D [42, 5] 0 avs' bls := h
  obtain ⟨t, x0, avs, ht, rfl, h⟩ := h
  obtain rfl : .int .u8 = t := Option.some.inj ((show (some (.int .u8) : Option Ty) = Go.SL.A.D.ty 5 by kernel_rfl).trans ht)
  replace h : ∃ (t : Ty) (x : t.I) (avs' : List AV), Go.SL.A.D.ty 42 = some t ∧ avs = ⟨t, x⟩ :: avs' ∧ argsOk Go.SL.A.D [5] 0 avs' bls := h
  obtain ⟨t, x1, avs, ht, rfl, h⟩ := h
  obtain rfl : .int .u32 = t := Option.some.inj ((show (some (.int .u32) : Option Ty) = Go.SL.A.D.ty 42 by kernel_rfl).trans ht)
  replace h : ∃ (t : Ty) (x : t.I) (avs' : List AV), Go.SL.A.D.ty 5 = some t ∧ avs = ⟨t, x⟩ :: avs' ∧ argsOk Go.SL.A.D [] 0 avs' bls := h
  obtain ⟨t, x2, avs, ht, rfl, h⟩ := h
  obtain rfl : .int .u8 = t := Option.some.inj ((show (some (.int .u8) : Option Ty) = Go.SL.A.D.ty 5 by kernel_rfl).trans ht)
  obtain ⟨rfl, rfl⟩ : avs = [] ∧ bls = [] := h
  have q := (Go.SL.A.snd19 19 Go.SL.A.sp19 rfl).2 [⟨.int .u8, x0⟩, ⟨.int .u32, x1⟩, ⟨.int .u8, x2⟩] [] _ rfl (trivial)
  exact q

theorem lifted (os : Os) (started : os.Started) (H : Type) (enc : TypeId × Value → H) :
    ReturnsInHanded {} Go.Proofs.Try.checked os 19 .any (Rows.pulseExactSpec.pre6 enc Go.Proofs.Try.prog Go.Proofs.Try.f19 Rows.pulseExactRow.domain false) (Rows.pulseExactSpec.post enc Go.Proofs.Try.prog Go.Proofs.Try.f19 false true false false) := by
  refine returnsInHanded_of_change (C := Go.Proofs.Try.checked) Seat.own started (by kernel_rfl) Go.Proofs.Try.func19
    (ChangeSpec.witness6 (enc := enc) (C := Go.Proofs.Try.checked) false ⟨#[], #[.int .u8 0, .int .u32 0, .int .u8 0], []⟩ 8 (by kernel_rfl) (by kernel_rfl) (by kernel_rfl) (by kernel_rfl)) ?_
  intro W base args ds gs before hval hW _ _
  refine law_calls (D := Go.SL.A.D) Go.SL.A.good Seat.kids Seat.slicesFull (fun t ht => Nat.le_of_ble_eq_true (List.all_eq_true.1 parsT t ht)) (by kernel_rfl) (show Go.Proofs.Try.f19.resultTypes = #[4] by kernel_rfl) Go.Proofs.Try.underlying4 rfl (fun ds h => ?_) law_pure (fun _ _ h => by cases (show none = some _ from h)) hval hW
  have h : ds.length = 3 := h
  match ds, h with
  | [_, _, _], _ => rfl

theorem joined : joinedFacts Go.Proofs.Try.prog 19 Go.Proofs.Try.f19 Rows.pulseExactSpec Rows.pulseExactRow = true := by
  unfold joinedFacts
  exact (andT (andT (andT (andT (andT (andT (andT (andT (andT (andT (andT (andT (andT (andT (andT (andT (andT (andT (andT (andT (andT (andT (andT (andT (andT (andT (andT (andT (andT (andT (andT (by as_aux_lemma => kernel_rfl) Seat.laidOut) Seat.mapsRowed) (by as_aux_lemma => kernel_rfl)) (by as_aux_lemma => kernel_rfl)) (by as_aux_lemma => kernel_rfl)) Seat.stops) (by as_aux_lemma => kernel_rfl)) Seat.knobs) (by as_aux_lemma => kernel_rfl)) (by as_aux_lemma => kernel_rfl)) (by as_aux_lemma => kernel_rfl)) (by as_aux_lemma => kernel_rfl)) (by as_aux_lemma => kernel_rfl)) (by as_aux_lemma => kernel_rfl)) (by as_aux_lemma => kernel_rfl)) (by as_aux_lemma => kernel_rfl)) (by as_aux_lemma => kernel_rfl)) (by as_aux_lemma => kernel_rfl)) (by as_aux_lemma => kernel_rfl)) (by as_aux_lemma => kernel_rfl)) (by as_aux_lemma => kernel_rfl)) (by as_aux_lemma => kernel_rfl)) (by as_aux_lemma => kernel_rfl)) Seat.heard) Seat.mayEnter) (by rw [Seat.lifts]; rfl)) (by rw [Seat.made]; rfl)) (by as_aux_lemma => kernel_rfl)) (by as_aux_lemma => kernel_rfl)) (by as_aux_lemma => kernel_rfl)) (by as_aux_lemma => kernel_rfl))

theorem pulseExact_holds : Rows.PulseExactSaid :=
  OpenClaim.holds_of_wide 19 Go.Proofs.Try.f19 rfl rfl rfl rfl rfl rfl rfl ⟨rfl, rfl, rfl, rfl, rfl⟩ rfl rfl rfl rfl rfl (by kernel_rfl) Go.Proofs.Try.func19 joined
    (of_decide_eq_true (by kernel_rfl)) (by unfold Func.isWrapper; first | (rw [if_pos (by decide +kernel)]; kernel_rfl) | (rw [if_neg (by decide +kernel)]; exact ⟨rfl, rfl⟩))
    (fun os started H enc _ => lifted os started H enc)

#print axioms pulseExact_holds
end Go.Proofs.Ythhfccnhkadkcaa
