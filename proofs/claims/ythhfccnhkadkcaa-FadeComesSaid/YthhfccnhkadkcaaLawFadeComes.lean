/- FadeComes returns true, whatever its argument, which reads afterwards as before: no condition. -/
import Derived.Test.YthhfccnhkadkcaaRows
import Derived.Test.YthhfccnhkadkcaaFade
import Derived.Test.YthhfccnhkadkcaaKb
import Derived.Test.YthhfccnhkadkcaaT

/- FadeComes: the law returns true, whatever its arguments; each argument reads afterwards as before. No condition. -/
namespace Go.Proofs.Ythhfccnhkadkcaa
open Go Go.SL Go.SL.S Go.ChangeShapes Go.WideShapes Go.ChangeAt Go.WideMaps Go.WideElems Go.RowKit
set_option maxRecDepth 100000

theorem parsT : ((Go.Proofs.Try.f3.params.toList).all fun t => Nat.blt t Go.Proofs.Try.prog.types.size) = true := by kernel_rfl
theorem parsL : Go.Proofs.Try.f3.params.toList = [22] := by kernel_rfl
theorem law_pure : ∀ avs bls, argsOk Go.SL.A.D Go.Proofs.Try.f3.params.toList 0 avs bls → VCall Go.Proofs.Try.prog 3 avs bls ⟨[], .v .bool true, [], []⟩ := by
  rw [parsL]
  intro avs bls h
  replace h : ∃ (t : Ty) (xs : List t.I) (avs' : List AV) (bls' : List Blk), Go.SL.A.D.ty 30 = some t ∧ avs = ⟨.ref .slice, .slice 0 t [] 0 xs.length⟩ :: avs' ∧ bls = ⟨true, false, t, xs⟩ :: bls' ∧ argsOk Go.SL.A.D [] 1 avs' bls' := h
  obtain ⟨t, x0, avs, bls, ht, rfl, rfl, h⟩ := h
  obtain rfl : .cons .bool (.last (.arr 32 (.int .i64))) = t := Option.some.inj ((show (some (.cons .bool (.last (.arr 32 (.int .i64)))) : Option Ty) = Go.SL.A.D.ty 30 by kernel_rfl).trans ht)
  obtain ⟨rfl, rfl⟩ : avs = [] ∧ bls = [] := h
  have q := (Go.SL.A.snd3 3 Go.SL.A.sp3 rfl).2 [⟨.ref .slice, .slice 0 (.cons .bool (.last (.arr 32 (.int .i64)))) [] 0 x0.length⟩] [⟨true, false, .cons .bool (.last (.arr 32 (.int .i64))), x0⟩] _ rfl (rfl)
  exact q

theorem lifted (os : Os) (started : os.Started) (H : Type) (enc : TypeId × Value → H) :
    ReturnsInHanded {} Go.Proofs.Try.checked os 3 .any (Rows.fadeComesSpec.pre6 enc Go.Proofs.Try.prog Go.Proofs.Try.f3 Rows.fadeComesRow.domain false) (Rows.fadeComesSpec.post enc Go.Proofs.Try.prog Go.Proofs.Try.f3 false true false false) := by
  refine returnsInHanded_of_change (C := Go.Proofs.Try.checked) Seat.own started (by kernel_rfl) Go.Proofs.Try.func3
    (ChangeSpec.witness6 (enc := enc) (C := Go.Proofs.Try.checked) false ⟨#[], #[.slice none 0 0], []⟩ 8 (by kernel_rfl) (by kernel_rfl) (by kernel_rfl) (by kernel_rfl)) ?_
  intro W base args ds gs before hval hW _ _
  refine law_calls (D := Go.SL.A.D) Go.SL.A.good Seat.kids Seat.slicesFull (fun t ht => Nat.le_of_ble_eq_true (List.all_eq_true.1 parsT t ht)) (by kernel_rfl) (show Go.Proofs.Try.f3.resultTypes = #[4] by kernel_rfl) Go.Proofs.Try.underlying4 rfl (fun ds h => ?_) law_pure hval hW
  have h : ds.length = 1 := h
  match ds, h with
  | [_], _ => rfl

theorem joined : joinedFacts Go.Proofs.Try.prog 3 Go.Proofs.Try.f3 Rows.fadeComesSpec Rows.fadeComesRow = true := by
  unfold joinedFacts
  exact (andT (andT (andT (andT (andT (andT (andT (andT (andT (andT (andT (andT (andT (andT (andT (andT (andT (andT (andT (andT (andT (andT (andT (andT (andT (andT (andT (andT (andT (andT (andT (by as_aux_lemma => kernel_rfl) Seat.laidOut) Seat.mapsRowed) (by as_aux_lemma => kernel_rfl)) (by as_aux_lemma => kernel_rfl)) (by as_aux_lemma => kernel_rfl)) Seat.stops) (by as_aux_lemma => kernel_rfl)) Seat.knobs) (by as_aux_lemma => kernel_rfl)) (by as_aux_lemma => kernel_rfl)) (by as_aux_lemma => kernel_rfl)) (by as_aux_lemma => kernel_rfl)) (by as_aux_lemma => kernel_rfl)) (by as_aux_lemma => kernel_rfl)) (by as_aux_lemma => kernel_rfl)) (by as_aux_lemma => kernel_rfl)) (by as_aux_lemma => kernel_rfl)) (by as_aux_lemma => kernel_rfl)) (by as_aux_lemma => kernel_rfl)) (by as_aux_lemma => kernel_rfl)) (by as_aux_lemma => kernel_rfl)) (by as_aux_lemma => kernel_rfl)) (by as_aux_lemma => kernel_rfl)) Seat.heard) Seat.mayEnter) (by rw [Seat.lifts]; rfl)) (by rw [Seat.made]; rfl)) (by as_aux_lemma => kernel_rfl)) (by as_aux_lemma => kernel_rfl)) (by as_aux_lemma => kernel_rfl)) (by as_aux_lemma => kernel_rfl))

theorem fadeComes_holds : Rows.FadeComesSaid :=
  OpenClaim.holds_of_wide 3 Go.Proofs.Try.f3 rfl rfl rfl rfl rfl rfl rfl ⟨rfl, rfl, rfl, rfl, rfl⟩ rfl rfl rfl rfl rfl (by kernel_rfl) Go.Proofs.Try.func3 joined
    (of_decide_eq_true (by kernel_rfl)) (by unfold Func.isWrapper; first | (rw [if_pos (by decide +kernel)]; kernel_rfl) | (rw [if_neg (by decide +kernel)]; exact ⟨rfl, rfl⟩))
    (fun os started H enc _ => lifted os started H enc)

#print axioms fadeComes_holds
end Go.Proofs.Ythhfccnhkadkcaa
