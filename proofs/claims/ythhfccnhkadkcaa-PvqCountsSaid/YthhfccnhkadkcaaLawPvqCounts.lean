/- PvqCounts returns true, whatever its arguments, which read afterwards as before: no condition. -/
import Derived.Test.YthhfccnhkadkcaaRows
import Derived.Test.YthhfccnhkadkcaaPvq
import Derived.Test.YthhfccnhkadkcaaKb
import Derived.Test.YthhfccnhkadkcaaT

/- Functions and what they are held to do: bound to their code. -/
namespace Go.SL.A
open Go Go.SL Go.SL.S
set_option maxRecDepth 100000
noncomputable def C7 : Ctx := ⟨Go.Proofs.Try.prog, D, G46, (fun _ _ => none), fun _ => []⟩
def ann7 (n k : Int) : Nat → St → Option Ann := fun _ _ => none
def out7 (n k : Int) : COut := ⟨[], .v .bool true, [], []⟩
def sp7 : Spec := fun args ins => match args, ins with
  | [⟨.int .u8, n⟩, ⟨.int .u8, k⟩], [] => some (out7 n k)
  | _, _ => none
def G7 := addG G46 7 sp7
def P7 (n k : Int) : Prop :=
  ((8 : Int) ≠ (0 : Int) ∧ (12 : Int) ≠ (0 : Int)) ∧ bif decide (countF (IntKind.wrap IntKind.i64 (Int.tmod (IntKind.wrap IntKind.i64 n) (8 : Int) + (1 : Int))) (IntKind.wrap IntKind.i64 (Int.tmod (IntKind.wrap IntKind.i64
  k) (12 : Int) + (1 : Int))) = IntKind.wrap IntKind.i64 (IntKind.wrap IntKind.i64 (countF (Int.tmod (IntKind.wrap IntKind.i64 n) (8 : Int)) (IntKind.wrap IntKind.i64 (Int.tmod (IntKind.wrap IntKind.i64 k) (12 : Int) + (1 :
  Int))) + countF (Int.tmod (IntKind.wrap IntKind.i64 n) (8 : Int)) (Int.tmod (IntKind.wrap IntKind.i64 k) (12 : Int))) + countF (IntKind.wrap IntKind.i64 (Int.tmod (IntKind.wrap IntKind.i64 n) (8 : Int) + (1 : Int)))
  (Int.tmod (IntKind.wrap IntKind.i64 k) (12 : Int)))) then bif decide (countF (Int.tmod (IntKind.wrap IntKind.i64 n) (8 : Int)) (0 : Int) = (1 : Int)) then bif decide (bitsF (Int.tmod (IntKind.wrap IntKind.i64 k) (12 :
  Int)) ≤ bitsF (IntKind.wrap IntKind.i64 (Int.tmod (IntKind.wrap IntKind.i64 k) (12 : Int) + (1 : Int)))) then (0 : Int) ≤ bitsF (Int.tmod (IntKind.wrap IntKind.i64 k) (12 : Int)) ∧ decide (countF (4 : Int) (Int.tmod
  (IntKind.wrap IntKind.i64 k) (12 : Int)) ≤ ishl IntKind.i64 (1 : Int) (bitsF (Int.tmod (IntKind.wrap IntKind.i64 k) (12 : Int)))) = true else (false = true → false = true) ∧ false = true else ((false = true → false =
  true) ∧ (false = true → false = true)) ∧ false = true else ((false = true → false = true) ∧ (false = true → false = true) ∧ (false = true → false = true)) ∧ false = true
theorem vc7 (n k : Int) : P7 n k = vcFun C7 (ann7 n k) Go.Proofs.Try.f7 [⟨.int .u8, n⟩, ⟨.int .u8, k⟩] [] (out7 n k) := by kernel_rfl

end Go.SL.A

namespace Go.SL.A
open Go Go.SL Go.SL.S

theorem cnt_zero : ∀ n, cnt n 0 = 1
  | 0 => rfl
  | n + 1 => cnt_zero n

theorem countF_val {n k : Int} (h : 0 ≤ n ∧ n ≤ 8 ∧ 0 ≤ k ∧ k ≤ 12) : countF n k = cnt n.toNat k.toNat := by
  unfold countF; rw [may_iff.2 h]; rfl

theorem bitLen_mono {a b : Nat} (h : a ≤ b) : bitLen a ≤ bitLen b := by
  unfold bitLen
  split
  · omega
  · rename_i ha
    rw [if_neg (by omega)]
    have h1 := Nat.log2_self_le ha
    have h2 := (Nat.log2_lt (n := a) (k := b.log2 + 1) ha).2 (by have := Nat.lt_log2_self (n := b); omega)
    omega

theorem bitLen_pow (a : Nat) : a < 2 ^ bitLen a := by
  unfold bitLen
  split
  · rename_i h; subst h; decide
  · exact Nat.lt_log2_self

theorem bitLen_small {a : Nat} (h : a < 2 ^ 33) : bitLen a ≤ 33 := by
  unfold bitLen
  split
  · omega
  · rename_i ha; have := (Nat.log2_lt (n := a) (k := 33) ha).2 h; omega

theorem pure7 (n k : Int) (hw : (0 ≤ n ∧ n ≤ 255) ∧ 0 ≤ k ∧ k ≤ 255) : P7 n k := by
  unfold P7
  obtain ⟨⟨a1, a2⟩, b1, b2⟩ := hw
  rw [w64 (n := n) (by omega) (by omega), w64 (n := k) (by omega) (by omega)]
  have d1 := tdm n (k := 8) (by decide)
  have d2 := tdm k (k := 12) (by decide)
  generalize n.tmod 8 = m at *
  generalize k.tmod 12 = q at *
  rw [w64 (n := m + 1) (by omega) (by omega), w64 (n := q + 1) (by omega) (by omega)]
  have c1 := countF_fits m (q + 1)
  have c2 := countF_fits m q
  have c3 := countF_fits (m + 1) q
  have c4 := countF_fits 4 q
  have c5 := countF_fits 4 (q + 1)
  rw [w64 (n := countF m (q + 1) + countF m q) (by omega) (by omega), w64 (by omega) (by omega)]
  have e1 : countF (m + 1) (q + 1) = countF m (q + 1) + countF m q + countF (m + 1) q := by
    rw [countF_val (by omega), countF_val (n := m) (k := q + 1) (by omega), countF_val (n := m) (k := q) (by omega), countF_val (n := m + 1) (k := q) (by omega)]
    rw [show (m + 1).toNat = m.toNat + 1 by omega, show (q + 1).toNat = q.toNat + 1 by omega]
    rw [show cnt (m.toNat + 1) (q.toNat + 1) = cnt (m.toNat + 1) q.toNat + cnt m.toNat q.toNat + cnt m.toNat (q.toNat + 1) from rfl]; omega
  have e2 : countF m 0 = 1 := by rw [countF_val (by omega)]; exact cnt_zero _
  have e3 : countF 4 q ≤ countF 4 (q + 1) := by
    rw [countF_val (by omega), countF_val (n := 4) (k := q + 1) (by omega), show (q + 1).toNat = q.toNat + 1 by omega]
    rw [show cnt (4 : Int).toNat (q.toNat + 1) = cnt (4 : Int).toNat q.toNat + cnt 3 q.toNat + cnt 3 (q.toNat + 1) from rfl]
    have := (cnt_le 3 q.toNat).1; have := (cnt_le 3 (q.toNat + 1)).1; omega
  have e4 : bitsF q ≤ bitsF (q + 1) := by
    unfold bitsF
    have := bitLen_mono (a := (countF 4 q - 1).toNat) (b := (countF 4 (q + 1) - 1).toNat) (by omega); omega
  have e5 : 0 ≤ bitsF q := by unfold bitsF; omega
  have e6 : countF 4 q ≤ ishl .i64 1 (bitsF q) := by
    have h1 := bitLen_pow (countF 4 q - 1).toNat
    have h2 := bitLen_small (a := (countF 4 q - 1).toNat) (by omega)
    have h3 : 2 ^ bitLen (countF 4 q - 1).toNat ≤ 2 ^ 33 := Nat.pow_le_pow_right (by decide) h2
    unfold ishl bitsF
    rw [Int.toNat_natCast, show min (bitLen (countF 4 q - 1).toNat) IntKind.i64.bits = bitLen (countF 4 q - 1).toNat from Nat.min_eq_left (by have : IntKind.i64.bits = 64 := rfl; omega)]
    have h4 : (1 : Int) * 2 ^ bitLen (countF 4 q - 1).toNat = ((2 ^ bitLen (countF 4 q - 1).toNat : Nat) : Int) := by simp
    rw [h4, w64 (by omega) (by omega)]; omega
  simp [e1, e2, e4, e5, e6]

theorem hw7 {n k : Int} (hw : allP (List.flatMap (fun a : AV => a.t.wf a.x) [⟨.int .u8, n⟩, ⟨.int .u8, k⟩] ++ List.flatMap Blk.wf [])) : (0 ≤ n ∧ n ≤ 255) ∧ 0 ≤ k ∧ k ≤ 255 := by
  simp only [List.flatMap_cons, List.flatMap_nil, Ty.wf, List.append_nil, List.cons_append, List.nil_append, allP] at hw
  exact ⟨⟨hw.1, hw.2.1⟩, hw.2.2.1, hw.2.2.2⟩

end Go.SL.A

/- Functions do what they are held to do. -/
namespace Go.SL.A
open Go Go.SL Go.SL.S
theorem snd7 : Sound Go.Proofs.Try.prog G7 := snd46.add ⟨_, Go.Proofs.Try.func7, by kernel_rfl, by kernel_rfl⟩ (by
  intro args ins out h hp
  unfold sp7 at h
  split at h
  · rename_i n k
    cases h
    exact vcFun_ok (C := C7) good snd46 Meth.none mix Go.Proofs.Try.func7 (ann7 n k) (fun hw => by rw [← vc7 n k]; exact pure7 n k (hw7 hw))
  · cases h)

end Go.SL.A

/- PvqCounts: the law returns true, whatever its arguments; each argument reads afterwards as before. No condition. -/
namespace Go.Proofs.Ythhfccnhkadkcaa
open Go Go.SL Go.SL.S Go.ChangeShapes Go.WideShapes Go.ChangeAt Go.WideMaps Go.WideElems Go.RowKit
set_option maxRecDepth 100000

theorem parsT : ((Go.Proofs.Try.f7.params.toList).all fun t => Nat.blt t Go.Proofs.Try.prog.types.size) = true := by kernel_rfl
theorem parsL : Go.Proofs.Try.f7.params.toList = [5, 5] := by kernel_rfl
theorem law_pure : ∀ avs bls, argsOk Go.SL.A.D Go.Proofs.Try.f7.params.toList 0 avs bls → VCall Go.Proofs.Try.prog 7 avs bls ⟨[], .v .bool true, [], []⟩ := by
  rw [parsL]
  intro avs bls h
  replace h : ∃ (t : Ty) (x : t.I) (avs' : List AV), Go.SL.A.D.ty 5 = some t ∧ avs = ⟨t, x⟩ :: avs' ∧ argsOk Go.SL.A.D [5] 0 avs' bls := h
  obtain ⟨t, x0, avs, ht, rfl, h⟩ := h
  obtain rfl : .int .u8 = t := Option.some.inj ((show (some (.int .u8) : Option Ty) = Go.SL.A.D.ty 5 by kernel_rfl).trans ht)
  replace h : ∃ (t : Ty) (x : t.I) (avs' : List AV), Go.SL.A.D.ty 5 = some t ∧ avs = ⟨t, x⟩ :: avs' ∧ argsOk Go.SL.A.D [] 0 avs' bls := h
  obtain ⟨t, x1, avs, ht, rfl, h⟩ := h
  obtain rfl : .int .u8 = t := Option.some.inj ((show (some (.int .u8) : Option Ty) = Go.SL.A.D.ty 5 by kernel_rfl).trans ht)
  obtain ⟨rfl, rfl⟩ : avs = [] ∧ bls = [] := h
  have q := (Go.SL.A.snd7 7 Go.SL.A.sp7 rfl).2 [⟨.int .u8, x0⟩, ⟨.int .u8, x1⟩] [] _ rfl (trivial)
  exact q

theorem lifted (os : Os) (started : os.Started) (H : Type) (enc : TypeId × Value → H) :
    ReturnsInHanded {} Go.Proofs.Try.checked os 7 .any (Rows.pvqCountsSpec.pre6 enc Go.Proofs.Try.prog Go.Proofs.Try.f7 Rows.pvqCountsRow.domain false) (Rows.pvqCountsSpec.post enc Go.Proofs.Try.prog Go.Proofs.Try.f7 false true false false) := by
  refine returnsInHanded_of_change (C := Go.Proofs.Try.checked) Seat.own started (by kernel_rfl) Go.Proofs.Try.func7
    (ChangeSpec.witness6 (enc := enc) (C := Go.Proofs.Try.checked) false ⟨#[], #[.int .u8 0, .int .u8 0], []⟩ 8 (by kernel_rfl) (by kernel_rfl) (by kernel_rfl) (by kernel_rfl)) ?_
  intro W base args ds gs before hval hW _ _
  refine law_calls (D := Go.SL.A.D) Go.SL.A.good Seat.kids Seat.slicesFull (fun t ht => Nat.le_of_ble_eq_true (List.all_eq_true.1 parsT t ht)) (by kernel_rfl) (show Go.Proofs.Try.f7.resultTypes = #[4] by kernel_rfl) Go.Proofs.Try.underlying4 rfl (fun ds h => ?_) law_pure hval hW
  have h : ds.length = 2 := h
  match ds, h with
  | [_, _], _ => rfl

theorem joined : joinedFacts Go.Proofs.Try.prog 7 Go.Proofs.Try.f7 Rows.pvqCountsSpec Rows.pvqCountsRow = true := by
  unfold joinedFacts
  exact (andT (andT (andT (andT (andT (andT (andT (andT (andT (andT (andT (andT (andT (andT (andT (andT (andT (andT (andT (andT (andT (andT (andT (andT (andT (andT (andT (andT (andT (andT (andT (by as_aux_lemma => kernel_rfl) Seat.laidOut) Seat.mapsRowed) (by as_aux_lemma => kernel_rfl)) (by as_aux_lemma => kernel_rfl)) (by as_aux_lemma => kernel_rfl)) Seat.stops) (by as_aux_lemma => kernel_rfl)) Seat.knobs) (by as_aux_lemma => kernel_rfl)) (by as_aux_lemma => kernel_rfl)) (by as_aux_lemma => kernel_rfl)) (by as_aux_lemma => kernel_rfl)) (by as_aux_lemma => kernel_rfl)) (by as_aux_lemma => kernel_rfl)) (by as_aux_lemma => kernel_rfl)) (by as_aux_lemma => kernel_rfl)) (by as_aux_lemma => kernel_rfl)) (by as_aux_lemma => kernel_rfl)) (by as_aux_lemma => kernel_rfl)) (by as_aux_lemma => kernel_rfl)) (by as_aux_lemma => kernel_rfl)) (by as_aux_lemma => kernel_rfl)) (by as_aux_lemma => kernel_rfl)) Seat.heard) Seat.mayEnter) (by rw [Seat.lifts]; rfl)) (by rw [Seat.made]; rfl)) (by as_aux_lemma => kernel_rfl)) (by as_aux_lemma => kernel_rfl)) (by as_aux_lemma => kernel_rfl)) (by as_aux_lemma => kernel_rfl))

theorem pvqCounts_holds : Rows.PvqCountsSaid :=
  OpenClaim.holds_of_wide 7 Go.Proofs.Try.f7 rfl rfl rfl rfl rfl rfl rfl ⟨rfl, rfl, rfl, rfl, rfl⟩ rfl rfl rfl rfl rfl (by kernel_rfl) Go.Proofs.Try.func7 joined
    (of_decide_eq_true (by kernel_rfl)) (by unfold Func.isWrapper; first | (rw [if_pos (by decide +kernel)]; kernel_rfl) | (rw [if_neg (by decide +kernel)]; exact ⟨rfl, rfl⟩))
    (fun os started H enc _ => lifted os started H enc)

#print axioms pvqCounts_holds
end Go.Proofs.Ythhfccnhkadkcaa
