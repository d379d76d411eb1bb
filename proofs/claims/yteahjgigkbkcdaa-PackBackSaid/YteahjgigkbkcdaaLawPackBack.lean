/- PackBack returns true, whatever its arguments, which read afterwards as before: no condition. -/
import Derived.Test.YteahjgigkbkcdaaRows
import Derived.Test.YteahjgigkbkcdaaS06
import Derived.Test.YteahjgigkbkcdaaS02

/- PackBack: the law returns true, whatever its arguments; each argument reads afterwards as before. No condition. -/
namespace Go.Proofs.Yteahjgigkbkcdaa
open Go Go.SL Go.SL.S Go.ChangeShapes Go.WideShapes Go.ChangeAt Go.WideMaps Go.WideElems Go.RowKit
set_option maxRecDepth 100000

theorem parsT : ((Go.Proofs.Try.f6.params.toList).all fun t => Nat.blt t Go.Proofs.Try.prog.types.size) = true := by kernel_rfl
theorem parsL : Go.Proofs.Try.f6.params.toList = [38, 22, 40, 5, 5, 5] := by kernel_rfl
theorem law_pure : ∀ avs bls, argsOk Go.SL.A.D Go.Proofs.Try.f6.params.toList 0 avs bls → VCall Go.Proofs.Try.prog 6 avs bls ⟨[], .v .bool true, [], []⟩ := by
  rw [parsL]
  intro avs bls h
  replace h : ∃ (t : Ty) (x : t.I) (avs' : List AV), Go.SL.A.D.ty 38 = some t ∧ avs = ⟨t, x⟩ :: avs' ∧ argsOk Go.SL.A.D [22, 40, 5, 5, 5] 0 avs' bls := h
  obtain ⟨t, x0, avs, ht, rfl, h⟩ := h
  obtain rfl : .int .u16 = t := Option.some.inj ((show (some (.int .u16) : Option Ty) = Go.SL.A.D.ty 38 by kernel_rfl).trans ht)
  replace h : ∃ (t : Ty) (x : t.I) (avs' : List AV), Go.SL.A.D.ty 22 = some t ∧ avs = ⟨t, x⟩ :: avs' ∧ argsOk Go.SL.A.D [40, 5, 5, 5] 0 avs' bls := h
  obtain ⟨t, x1, avs, ht, rfl, h⟩ := h
  obtain rfl : .arr 8 (.int .i64) = t := Option.some.inj ((show (some (.arr 8 (.int .i64)) : Option Ty) = Go.SL.A.D.ty 22 by kernel_rfl).trans ht)
  replace h : ∃ (t : Ty) (x : t.I) (avs' : List AV), Go.SL.A.D.ty 40 = some t ∧ avs = ⟨t, x⟩ :: avs' ∧ argsOk Go.SL.A.D [5, 5, 5] 0 avs' bls := h
  obtain ⟨t, x2, avs, ht, rfl, h⟩ := h
  obtain rfl : .arr 8 (.int .u32) = t := Option.some.inj ((show (some (.arr 8 (.int .u32)) : Option Ty) = Go.SL.A.D.ty 40 by kernel_rfl).trans ht)
  replace h : ∃ (t : Ty) (x : t.I) (avs' : List AV), Go.SL.A.D.ty 5 = some t ∧ avs = ⟨t, x⟩ :: avs' ∧ argsOk Go.SL.A.D [5, 5] 0 avs' bls := h
  obtain ⟨t, x3, avs, ht, rfl, h⟩ := h
  obtain rfl : .int .u8 = t := Option.some.inj ((show (some (.int .u8) : Option Ty) = Go.SL.A.D.ty 5 by kernel_rfl).trans ht)
  replace h : ∃ (t : Ty) (x : t.I) (avs' : List AV), Go.SL.A.D.ty 5 = some t ∧ avs = ⟨t, x⟩ :: avs' ∧ argsOk Go.SL.A.D [5] 0 avs' bls := h
  obtain ⟨t, x4, avs, ht, rfl, h⟩ := h
  obtain rfl : .int .u8 = t := Option.some.inj ((show (some (.int .u8) : Option Ty) = Go.SL.A.D.ty 5 by kernel_rfl).trans ht)
  replace h : ∃ (t : Ty) (x : t.I) (avs' : List AV), Go.SL.A.D.ty 5 = some t ∧ avs = ⟨t, x⟩ :: avs' ∧ argsOk Go.SL.A.D [] 0 avs' bls := h
  obtain ⟨t, x5, avs, ht, rfl, h⟩ := h
  obtain rfl : .int .u8 = t := Option.some.inj ((show (some (.int .u8) : Option Ty) = Go.SL.A.D.ty 5 by kernel_rfl).trans ht)
  obtain ⟨rfl, rfl⟩ : avs = [] ∧ bls = [] := h
  have q := (Go.SL.A.sndq6 6 Go.SL.A.spq6 rfl).2 [⟨.int .u16, x0⟩, ⟨.arr 8 (.int .i64), x1⟩, ⟨.arr 8 (.int .u32), x2⟩, ⟨.int .u8, x3⟩, ⟨.int .u8, x4⟩, ⟨.int .u8, x5⟩] [] _ rfl (trivial)
  exact q

theorem lifted (os : Os) (started : os.Started) (H : Type) (enc : TypeId × Value → H) :
    ReturnsInHanded {} Go.Proofs.Try.checked os 6 .any (Rows.packBackSpec.pre6 enc Go.Proofs.Try.prog Go.Proofs.Try.f6 Rows.packBackRow.domain false) (Rows.packBackSpec.post enc Go.Proofs.Try.prog Go.Proofs.Try.f6 false true false false) := by
  refine returnsInHanded_of_change (C := Go.Proofs.Try.checked) Seat.own started (by kernel_rfl) Go.Proofs.Try.func6
    (ChangeSpec.witness6 (enc := enc) (C := Go.Proofs.Try.checked) false ⟨#[], #[.int .u16 0, .agg (Array.replicate 8 (.int .i64 0)), .agg (Array.replicate 8 (.int .u32 0)), .int .u8 0, .int .u8 0, .int .u8 0], []⟩ 8 (by kernel_rfl) (by kernel_rfl) (by kernel_rfl) (by kernel_rfl)) ?_
  intro W base args ds gs before hval hW _ _
  refine law_calls (D := Go.SL.A.D) Go.SL.A.good Seat.kids Seat.slicesFull (fun t ht => Nat.le_of_ble_eq_true (List.all_eq_true.1 parsT t ht)) (by kernel_rfl) (show Go.Proofs.Try.f6.resultTypes = #[4] by kernel_rfl) Go.Proofs.Try.underlying4 rfl (fun ds h => ?_) law_pure (fun _ _ h => by cases (show none = some _ from h)) hval hW
  have h : ds.length = 6 := h
  match ds, h with
  | [_, _, _, _, _, _], _ => rfl

theorem joined : joinedFacts Go.Proofs.Try.prog 6 Go.Proofs.Try.f6 Rows.packBackSpec Rows.packBackRow = true := by
  unfold joinedFacts
  exact (andT (andT (andT (andT (andT (andT (andT (andT (andT (andT (andT (andT (andT (andT (andT (andT (andT (andT (andT (andT (andT (andT (andT (andT (andT (andT (andT (andT (andT (andT (andT (by as_aux_lemma => kernel_rfl) Seat.laidOut) Seat.mapsRowed) (by as_aux_lemma => kernel_rfl)) (by as_aux_lemma => kernel_rfl)) (by as_aux_lemma => kernel_rfl)) Seat.stops) (by as_aux_lemma => kernel_rfl)) Seat.knobs) (by as_aux_lemma => kernel_rfl)) (by as_aux_lemma => kernel_rfl)) (by as_aux_lemma => kernel_rfl)) (by as_aux_lemma => kernel_rfl)) (by as_aux_lemma => kernel_rfl)) (by as_aux_lemma => kernel_rfl)) (by as_aux_lemma => kernel_rfl)) (by as_aux_lemma => kernel_rfl)) (by as_aux_lemma => kernel_rfl)) (by as_aux_lemma => kernel_rfl)) (by as_aux_lemma => kernel_rfl)) (by as_aux_lemma => kernel_rfl)) (by as_aux_lemma => kernel_rfl)) (by as_aux_lemma => kernel_rfl)) (by as_aux_lemma => kernel_rfl)) Seat.heard) Seat.mayEnter) (by rw [Seat.lifts]; rfl)) (by rw [Seat.made]; rfl)) (by as_aux_lemma => kernel_rfl)) (by as_aux_lemma => kernel_rfl)) (by as_aux_lemma => kernel_rfl)) (by as_aux_lemma => kernel_rfl))

theorem packBack_holds : Rows.PackBackSaid :=
  OpenClaim.holds_of_wide 6 Go.Proofs.Try.f6 rfl rfl rfl rfl rfl rfl rfl ⟨rfl, rfl, rfl, rfl, rfl⟩ rfl rfl rfl rfl rfl (by kernel_rfl) Go.Proofs.Try.func6 joined
    (of_decide_eq_true (by kernel_rfl)) (by unfold Func.isWrapper; first | (rw [if_pos (by decide +kernel)]; kernel_rfl) | (rw [if_neg (by decide +kernel)]; exact ⟨rfl, rfl⟩))
    (fun os started H enc _ => lifted os started H enc)

#print axioms packBack_holds
end Go.Proofs.Yteahjgigkbkcdaa
