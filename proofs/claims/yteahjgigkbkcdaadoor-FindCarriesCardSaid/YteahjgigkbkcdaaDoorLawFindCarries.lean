/- FindCarries returns true, whatever its arguments, which read afterwards as before: no condition. -/
import Derived.Test.YteahjgigkbkcdaaDoorRows
import Derived.Test.YteahjgigkbkcdaaDoorCards
import Derived.Test.YteahjgigkbkcdaaDoorTie
import Derived.Test.YteahjgigkbkcdaaDoorS07
import Derived.Test.YteahjgigkbkcdaaDoorS02
import Derived.Test.YteahjgigkbkcdaaDoorS06

/- FindCarries: the law returns true, whatever its arguments; each argument reads afterwards as before. No condition. -/
namespace Go.Proofs.YteahjgigkbkcdaaDoor
open Go Go.SL Go.SL.S Go.ChangeShapes Go.WideShapes Go.ChangeAt Go.WideMaps Go.WideElems Go.RowKit
set_option maxRecDepth 100000

theorem parsT : ((Go.Proofs.Tryd.f5.params.toList).all fun t => Nat.blt t Go.Proofs.Tryd.prog.types.size) = true := by kernel_rfl
theorem parsL : Go.Proofs.Tryd.f5.params.toList = [23, 3, 48, 48, 48] := by kernel_rfl
theorem law_pure : ∀ avs bls, argsOk Go.SL.A.D Go.Proofs.Tryd.f5.params.toList 0 avs bls → VCall Go.Proofs.Tryd.prog 5 avs bls ⟨[], .v .bool true, [], []⟩ := by
  rw [parsL]
  intro avs bls h
  replace h : ∃ (t : Ty) (x : t.I) (avs' : List AV), Go.SL.A.D.ty 23 = some t ∧ avs = ⟨t, x⟩ :: avs' ∧ argsOk Go.SL.A.D [3, 48, 48, 48] 0 avs' bls := h
  obtain ⟨t, x0, avs, ht, rfl, h⟩ := h
  obtain rfl : .arr 16 (.int .u8) = t := Option.some.inj ((show (some (.arr 16 (.int .u8)) : Option Ty) = Go.SL.A.D.ty 23 by kernel_rfl).trans ht)
  replace h : ∃ (t : Ty) (x : t.I) (avs' : List AV), Go.SL.A.D.ty 3 = some t ∧ avs = ⟨t, x⟩ :: avs' ∧ argsOk Go.SL.A.D [48, 48, 48] 0 avs' bls := h
  obtain ⟨t, x1, avs, ht, rfl, h⟩ := h
  obtain rfl : .int .i64 = t := Option.some.inj ((show (some (.int .i64) : Option Ty) = Go.SL.A.D.ty 3 by kernel_rfl).trans ht)
  replace h : ∃ (t : Ty) (xs : List t.I) (avs' : List AV) (bls' : List Blk), Go.SL.A.D.ty 24 = some t ∧ avs = ⟨.ref .slice, .slice 0 t [] 0 xs.length⟩ :: avs' ∧ bls = ⟨true, false, t, xs⟩ :: bls' ∧ argsOk Go.SL.A.D [48, 48] 1 avs' bls' := h
  obtain ⟨t, x2, avs, bls, ht, rfl, rfl, h⟩ := h
  obtain rfl : .int .u16 = t := Option.some.inj ((show (some (.int .u16) : Option Ty) = Go.SL.A.D.ty 24 by kernel_rfl).trans ht)
  replace h : ∃ (t : Ty) (xs : List t.I) (avs' : List AV) (bls' : List Blk), Go.SL.A.D.ty 24 = some t ∧ avs = ⟨.ref .slice, .slice 1 t [] 0 xs.length⟩ :: avs' ∧ bls = ⟨true, false, t, xs⟩ :: bls' ∧ argsOk Go.SL.A.D [48] 2 avs' bls' := h
  obtain ⟨t, x3, avs, bls, ht, rfl, rfl, h⟩ := h
  obtain rfl : .int .u16 = t := Option.some.inj ((show (some (.int .u16) : Option Ty) = Go.SL.A.D.ty 24 by kernel_rfl).trans ht)
  replace h : ∃ (t : Ty) (xs : List t.I) (avs' : List AV) (bls' : List Blk), Go.SL.A.D.ty 24 = some t ∧ avs = ⟨.ref .slice, .slice 2 t [] 0 xs.length⟩ :: avs' ∧ bls = ⟨true, false, t, xs⟩ :: bls' ∧ argsOk Go.SL.A.D [] 3 avs' bls' := h
  obtain ⟨t, x4, avs, bls, ht, rfl, rfl, h⟩ := h
  obtain rfl : .int .u16 = t := Option.some.inj ((show (some (.int .u16) : Option Ty) = Go.SL.A.D.ty 24 by kernel_rfl).trans ht)
  obtain ⟨rfl, rfl⟩ : avs = [] ∧ bls = [] := h
  have q := (Go.SL.A.sndv5 5 Go.SL.A.spv5 rfl).2 [⟨.arr 16 (.int .u8), x0⟩, ⟨.int .i64, x1⟩, ⟨.ref .slice, .slice 0 (.int .u16) [] 0 x2.length⟩, ⟨.ref .slice, .slice 1 (.int .u16) [] 0 x3.length⟩, ⟨.ref .slice, .slice 2 (.int .u16) [] 0 x4.length⟩] [⟨true, false, .int .u16, x2⟩, ⟨true, false, .int .u16, x3⟩, ⟨true, false, .int .u16, x4⟩] _ rfl (⟨rfl, rfl, rfl⟩)
  exact q

abbrev laidL : List (String × DataW Unit) := [("belfry/sip.signs", Rows.laid_belfry_sip_signs)]
theorem lifted (os : Os) (started : os.Started) (H : Type) (enc : TypeId × Value → H) :
    ReturnsInHanded {} Go.Proofs.Tryd.checked os 5 .any (fun w args => (Rows.findCarriesSpec.pre enc Go.Proofs.Tryd.prog Go.Proofs.Tryd.f5 [] false w args ∧ laidMetH Go.Proofs.Tryd.prog laidL w) ∧ sizedMet enc Go.Proofs.Tryd.prog Go.Proofs.Tryd.f5 (OpenSpec.ofChange Rows.findCarriesSpec) false w args) (Rows.findCarriesSpec.post enc Go.Proofs.Tryd.prog Go.Proofs.Tryd.f5 false true false false) := by
  refine returnsInHanded_of_change_and (C := Go.Proofs.Tryd.checked) (X := fun w _ => laidMetH Go.Proofs.Tryd.prog laidL w) (fun _ _ _ hh h => h.of_heap hh) Seat.own started (by kernel_rfl) Go.Proofs.Tryd.func5
    (ChangeSpec.witness_at (enc := enc) (C := Go.Proofs.Tryd.checked) (os := os) (X := fun w _ => laidMetH Go.Proofs.Tryd.prog laidL w) false (Seat.laidWorld os) #[.agg (Array.replicate 16 (.int .u8 0)), .int .i64 0, .slice none 0 0, .slice none 0 0, .slice none 0 0] 8 rfl (by kernel_rfl) (by kernel_rfl) (by kernel_rfl) (by kernel_rfl) (by kernel_rfl) (Seat.laidWorld_met os _)) ?_
  intro W base args ds gs before hval hW _ _ hL _
  refine law_calls (D := Go.SL.A.D) Go.SL.A.good Seat.kids Seat.slicesFull (fun t ht => Nat.le_of_ble_eq_true (List.all_eq_true.1 parsT t ht)) (by kernel_rfl) (show Go.Proofs.Tryd.f5.resultTypes = #[4] by kernel_rfl) Go.Proofs.Tryd.underlying4 rfl (fun ds h => ?_) law_pure (fun g a hg => Seat.signs_gl hL g a hg) hval hW
  have h : ds.length = 5 := h
  match ds, h with
  | [_, _, _, _, _], _ => rfl

theorem joined : joinedFacts Go.Proofs.Tryd.prog 5 Go.Proofs.Tryd.f5 Rows.findCarriesSpec Rows.findCarriesRow = true := by
  unfold joinedFacts
  exact (andT (andT (andT (andT (andT (andT (andT (andT (andT (andT (andT (andT (andT (andT (andT (andT (andT (andT (andT (andT (andT (andT (andT (andT (andT (andT (andT (andT (andT (andT (andT (by as_aux_lemma => kernel_rfl) Seat.laidOut) Seat.mapsRowed) (by as_aux_lemma => kernel_rfl)) (by as_aux_lemma => kernel_rfl)) (by as_aux_lemma => kernel_rfl)) Seat.stops) (by as_aux_lemma => kernel_rfl)) Seat.knobs) (by as_aux_lemma => kernel_rfl)) (by as_aux_lemma => kernel_rfl)) (by as_aux_lemma => kernel_rfl)) (by as_aux_lemma => kernel_rfl)) (by as_aux_lemma => kernel_rfl)) (by as_aux_lemma => kernel_rfl)) (by as_aux_lemma => kernel_rfl)) (by as_aux_lemma => kernel_rfl)) (by as_aux_lemma => kernel_rfl)) (by as_aux_lemma => kernel_rfl)) (by as_aux_lemma => kernel_rfl)) (by as_aux_lemma => kernel_rfl)) (by as_aux_lemma => kernel_rfl)) (by as_aux_lemma => kernel_rfl)) (by as_aux_lemma => kernel_rfl)) Seat.heard) Seat.mayEnter) (by rw [Seat.lifts]; rfl)) (by rw [Seat.made]; rfl)) (by as_aux_lemma => kernel_rfl)) (by as_aux_lemma => kernel_rfl)) (by as_aux_lemma => kernel_rfl)) (by as_aux_lemma => kernel_rfl))

theorem findCarries_holds : Rows.FindCarriesSaid :=
  OpenClaim.holds_of_wide 5 Go.Proofs.Tryd.f5 rfl rfl rfl rfl rfl rfl rfl ⟨rfl, rfl, rfl, rfl, rfl⟩ rfl rfl rfl rfl rfl (by kernel_rfl) Go.Proofs.Tryd.func5 joined
    (of_decide_eq_true (by kernel_rfl)) (by unfold Func.isWrapper; first | (rw [if_pos (by decide +kernel)]; kernel_rfl) | (rw [if_neg (by decide +kernel)]; exact ⟨rfl, rfl⟩))
    (fun os started H enc _ => lifted os started H enc)

theorem noStand : ((Go.Proofs.Tryd.f5.params.toList).all fun t => !Go.Proofs.Tryd.prog.wantsStandIn t) = true := by kernel_rfl
theorem findCarriesCard_holds : Rows.FindCarriesCardSaid :=
  Claim7.holds_tied_plain_at .later [] [.data] true (true, "f658b79e1aa73a4e0ec9b1403f00afa89c8446a3f2dfa31e81141c3996dff4f4") true
    findCarries_holds (fun _ h => by cases h) (by kernel_rfl) (fun _ h => by cases h) findCarries_row_tie rfl ⟨rfl, rfl⟩ (by kernel_rfl) rfl
    (fun f fn hf hfn => by
      obtain rfl : f = 5 := Option.some.inj (hf.symm.trans (by kernel_rfl))
      obtain rfl : fn = Go.Proofs.Tryd.f5 := Option.some.inj (hfn.symm.trans Go.Proofs.Tryd.func5)
      refine ⟨by kernel_rfl, fun j t ht => ?_⟩
      have hm := List.all_eq_true.1 noStand t (List.mem_of_getElem? (by rw [Array.getElem?_toList]; exact ht))
      exact (show Go.Proofs.Tryd.prog.wantsStandIn t = false by simpa using hm))
    (by kernel_rfl)

#print axioms findCarriesCard_holds
end Go.Proofs.YteahjgigkbkcdaaDoor
