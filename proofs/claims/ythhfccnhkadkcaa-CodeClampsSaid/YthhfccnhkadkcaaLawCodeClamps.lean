/- CodeClamps returns true, whatever its arguments, which read afterwards as before: no condition. -/
import Derived.Test.YthhfccnhkadkcaaRows
import Derived.Test.YthhfccnhkadkcaaCode
import Derived.Test.YthhfccnhkadkcaaKb
import Derived.Test.YthhfccnhkadkcaaT

/- Functions and what they are held to do: bound to their code. -/
namespace Go.SL.A
open Go Go.SL Go.SL.S
set_option maxRecDepth 100000
noncomputable def C21 : Ctx := ⟨Go.Proofs.Try.prog, D, G64, meth18, fun _ => []⟩
def ann21 (_f : List Int) (_z : Int) : Nat → St → Option Ann := fun _ _ => none
def out21 (_f : List Int) (_z : Int) : COut := ⟨[], .v .bool true, [], []⟩
def sp21 : Spec := fun args ins => match args, ins with
  | [⟨.arr 32 (.int .i64), f⟩, ⟨.int .u8, z⟩], [] => some (out21 f z)
  | _, _ => none
def G21 := addG G64 21 sp21
def P21 (f : List Int) (z : Int) : Prop :=
  (12 : Int) ≠ (0 : Int) ∧ ∀ (b : Bool), decide (shapeE (IntKind.wrap IntKind.i64 ((12 : Int) + Int.tmod (IntKind.wrap IntKind.i64 z) (12 : Int))) = (0 : Int)) = b → ∀ (b_1 : Bool), (bif b then decide (shapeE (IntKind.wrap
  IntKind.i64 ((12 : Int) + Int.tmod (IntKind.wrap IntKind.i64 z) (12 : Int))) = (0 : Int)) else false) = b_1 → ∀ (b_2 : Bool), (bif b_1 then decide (shapeE (IntKind.wrap IntKind.i64 (IntKind.wrap IntKind.i64 ((12 : Int) +
  Int.tmod (IntKind.wrap IntKind.i64 z) (12 : Int)) + (1 : Int))) = (0 : Int)) else false) = b_2 → ∀ (b_3 : Bool), (bif b_2 then Ty.eqb (Ty.cons (Ty.arr (8 : Nat) (Ty.int IntKind.i64)) (Ty.last (Ty.arr (8 : Nat) (Ty.arr (4
  : Nat) (Ty.int IntKind.i64))))) (Prod.fst (shapeV f (IntKind.wrap IntKind.i64 ((12 : Int) + Int.tmod (IntKind.wrap IntKind.i64 z) (12 : Int)))), Prod.snd (shapeV f (IntKind.wrap IntKind.i64 ((12 : Int) + Int.tmod
  (IntKind.wrap IntKind.i64 z) (12 : Int))))) (Prod.fst (shapeV (clampF f) (IntKind.wrap IntKind.i64 ((12 : Int) + Int.tmod (IntKind.wrap IntKind.i64 z) (12 : Int)))), Prod.snd (shapeV (clampF f) (IntKind.wrap IntKind.i64
  ((12 : Int) + Int.tmod (IntKind.wrap IntKind.i64 z) (12 : Int))))) else false) = b_3 → ((b = true → b = true) ∧ (b = true → b = true) ∧ (b_1 = true → b_1 = true) ∧ (b_1 = true → b_1 = true) ∧ (b_2 = true → b_2 = true ∧
  b_2 = true) ∧ (b_2 = true → b_2 = true) ∧ (b_3 = true → b_3 = true) ∧ (b_3 = true → b_3 = true) ∧ (b_3 = true → b_3 = true ∧ b_3 = true) ∧ (b_3 = true → b_3 = true)) ∧ (bif b_3 then Ty.eqb (Ty.arr (8 : Nat) (Ty.int
  IntKind.i64)) (Prod.fst (shapeV f (IntKind.wrap IntKind.i64 ((12 : Int) + Int.tmod (IntKind.wrap IntKind.i64 z) (12 : Int))))) (Prod.fst (shapeV f (IntKind.wrap IntKind.i64 (IntKind.wrap IntKind.i64 ((12 : Int) + Int.tmod
  (IntKind.wrap IntKind.i64 z) (12 : Int)) + (1 : Int))))) else false) = true
theorem vc21 (f : List Int) (z : Int) : P21 f z = vcFun C21 (ann21 f z) Go.Proofs.Try.f21 [⟨.arr 32 (.int .i64), f⟩, ⟨.int .u8, z⟩] [] (out21 f z) := by kernel_rfl

end Go.SL.A

namespace Go.SL.A
open Go Go.SL Go.SL.S

theorem pure21 (f : List Int) (z : Int) (hw : f.length = 32 ∧ 0 ≤ z ∧ z ≤ 255) : P21 f z := by
  obtain ⟨hl, hz⟩ := hw
  unfold P21
  have d := tdm z (k := 12) (by decide)
  rw [w64 (n := z) (by omega) (by omega), w64 (n := 12 + z.tmod 12) (by omega) (by omega), w64 (n := 12 + z.tmod 12 + 1) (by omega) (by omega)]
  have hn : 12 ≤ 12 + z.tmod 12 ∧ 12 + z.tmod 12 + 1 ≤ 24 := by omega
  clear d
  generalize 12 + z.tmod 12 = n at *
  have h1 := shp f (n := n) (by omega)
  have h2 := shp f (n := n + 1) (by omega)
  have e3 : ((shapeV f n).1, (shapeV f n).2) = shapeV f n := rfl
  rw [shape_clamp, e3, eqbS, h1.ok, h2.ok, h1.side, h2.side]
  have e4 : (Ty.arr 8 (Ty.int .i64)).eqb (stepsF (clampF f)) (stepsF (clampF f)) = true := by
    rw [eqbA (stepsF_len _) (stepsF_len _)]; simp
  rw [e4]
  refine ⟨by decide, ?_⟩
  rintro _ rfl _ rfl _ rfl _ rfl
  simp
end Go.SL.A

/- Functions do what they are held to do. -/
namespace Go.SL.A
open Go Go.SL Go.SL.S
theorem snd21 : Sound Go.Proofs.Try.prog G21 := snd64.add ⟨_, Go.Proofs.Try.func21, by kernel_rfl, by kernel_rfl⟩ (by
  intro args ins out h hp
  unfold sp21 at h
  split at h
  · rename_i f z
    cases h
    exact vcFun_ok (C := C21) good snd64 methOk18 mix Go.Proofs.Try.func21 (ann21 f z) (fun hw => by rw [← vc21 f z]; exact pure21 f z (hw21 hw))
  · cases h)

end Go.SL.A

/- CodeClamps: the law returns true, whatever its arguments; each argument reads afterwards as before. No condition. -/
namespace Go.Proofs.Ythhfccnhkadkcaa
open Go Go.SL Go.SL.S Go.ChangeShapes Go.WideShapes Go.ChangeAt Go.WideMaps Go.WideElems Go.RowKit
set_option maxRecDepth 100000

theorem parsT : ((Go.Proofs.Try.f21.params.toList).all fun t => Nat.blt t Go.Proofs.Try.prog.types.size) = true := by kernel_rfl
theorem parsL : Go.Proofs.Try.f21.params.toList = [27, 5] := by kernel_rfl
theorem law_pure : ∀ avs bls, argsOk Go.SL.A.D Go.Proofs.Try.f21.params.toList 0 avs bls → VCall Go.Proofs.Try.prog 21 avs bls ⟨[], .v .bool true, [], []⟩ := by
  rw [parsL]
  intro avs bls h
  replace h : ∃ (t : Ty) (x : t.I) (avs' : List AV), Go.SL.A.D.ty 27 = some t ∧ avs = ⟨t, x⟩ :: avs' ∧ argsOk Go.SL.A.D [5] 0 avs' bls := h
  obtain ⟨t, x0, avs, ht, rfl, h⟩ := h
  obtain rfl : .arr 32 (.int .i64) = t := Option.some.inj ((show (some (.arr 32 (.int .i64)) : Option Ty) = Go.SL.A.D.ty 27 by kernel_rfl).trans ht)
  replace h : ∃ (t : Ty) (x : t.I) (avs' : List AV), Go.SL.A.D.ty 5 = some t ∧ avs = ⟨t, x⟩ :: avs' ∧ argsOk Go.SL.A.D [] 0 avs' bls := h
  obtain ⟨t, x1, avs, ht, rfl, h⟩ := h
  obtain rfl : .int .u8 = t := Option.some.inj ((show (some (.int .u8) : Option Ty) = Go.SL.A.D.ty 5 by kernel_rfl).trans ht)
  obtain ⟨rfl, rfl⟩ : avs = [] ∧ bls = [] := h
  have q := (Go.SL.A.snd21 21 Go.SL.A.sp21 rfl).2 [⟨.arr 32 (.int .i64), x0⟩, ⟨.int .u8, x1⟩] [] _ rfl (trivial)
  exact q

theorem lifted (os : Os) (started : os.Started) (H : Type) (enc : TypeId × Value → H) :
    ReturnsInHanded {} Go.Proofs.Try.checked os 21 .any (Rows.codeClampsSpec.pre6 enc Go.Proofs.Try.prog Go.Proofs.Try.f21 Rows.codeClampsRow.domain false) (Rows.codeClampsSpec.post enc Go.Proofs.Try.prog Go.Proofs.Try.f21 false true false false) := by
  refine returnsInHanded_of_change (C := Go.Proofs.Try.checked) Seat.own started (by kernel_rfl) Go.Proofs.Try.func21
    (ChangeSpec.witness6 (enc := enc) (C := Go.Proofs.Try.checked) false ⟨#[], #[.agg (Array.replicate 32 (.int .i64 0)), .int .u8 0], []⟩ 8 (by kernel_rfl) (by kernel_rfl) (by kernel_rfl) (by kernel_rfl)) ?_
  intro W base args ds gs before hval hW _ _
  refine law_calls (D := Go.SL.A.D) Go.SL.A.good Seat.kids Seat.slicesFull (fun t ht => Nat.le_of_ble_eq_true (List.all_eq_true.1 parsT t ht)) (by kernel_rfl) (show Go.Proofs.Try.f21.resultTypes = #[4] by kernel_rfl) Go.Proofs.Try.underlying4 rfl (fun ds h => ?_) law_pure (fun _ _ h => by cases (show none = some _ from h)) hval hW
  have h : ds.length = 2 := h
  match ds, h with
  | [_, _], _ => rfl

theorem joined : joinedFacts Go.Proofs.Try.prog 21 Go.Proofs.Try.f21 Rows.codeClampsSpec Rows.codeClampsRow = true := by
  unfold joinedFacts
  exact (andT (andT (andT (andT (andT (andT (andT (andT (andT (andT (andT (andT (andT (andT (andT (andT (andT (andT (andT (andT (andT (andT (andT (andT (andT (andT (andT (andT (andT (andT (andT (by as_aux_lemma => kernel_rfl) Seat.laidOut) Seat.mapsRowed) (by as_aux_lemma => kernel_rfl)) (by as_aux_lemma => kernel_rfl)) (by as_aux_lemma => kernel_rfl)) Seat.stops) (by as_aux_lemma => kernel_rfl)) Seat.knobs) (by as_aux_lemma => kernel_rfl)) (by as_aux_lemma => kernel_rfl)) (by as_aux_lemma => kernel_rfl)) (by as_aux_lemma => kernel_rfl)) (by as_aux_lemma => kernel_rfl)) (by as_aux_lemma => kernel_rfl)) (by as_aux_lemma => kernel_rfl)) (by as_aux_lemma => kernel_rfl)) (by as_aux_lemma => kernel_rfl)) (by as_aux_lemma => kernel_rfl)) (by as_aux_lemma => kernel_rfl)) (by as_aux_lemma => kernel_rfl)) (by as_aux_lemma => kernel_rfl)) (by as_aux_lemma => kernel_rfl)) (by as_aux_lemma => kernel_rfl)) Seat.heard) Seat.mayEnter) (by rw [Seat.lifts]; rfl)) (by rw [Seat.made]; rfl)) (by as_aux_lemma => kernel_rfl)) (by as_aux_lemma => kernel_rfl)) (by as_aux_lemma => kernel_rfl)) (by as_aux_lemma => kernel_rfl))

theorem codeClamps_holds : Rows.CodeClampsSaid :=
  OpenClaim.holds_of_wide 21 Go.Proofs.Try.f21 rfl rfl rfl rfl rfl rfl rfl ⟨rfl, rfl, rfl, rfl, rfl⟩ rfl rfl rfl rfl rfl (by kernel_rfl) Go.Proofs.Try.func21 joined
    (of_decide_eq_true (by kernel_rfl)) (by unfold Func.isWrapper; first | (rw [if_pos (by decide +kernel)]; kernel_rfl) | (rw [if_neg (by decide +kernel)]; exact ⟨rfl, rfl⟩))
    (fun os started H enc _ => lifted os started H enc)

#print axioms codeClamps_holds
end Go.Proofs.Ythhfccnhkadkcaa
