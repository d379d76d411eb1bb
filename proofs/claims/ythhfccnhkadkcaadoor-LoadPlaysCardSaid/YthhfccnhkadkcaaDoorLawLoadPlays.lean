/- LoadPlays returns true, whatever its arguments, which read afterwards as before: no condition but that the package-level table holds what the program's text lays (tied by the card). -/
import Derived.Test.YthhfccnhkadkcaaDoorRows
import Derived.Test.YthhfccnhkadkcaaDoorCards
import Derived.Test.YthhfccnhkadkcaaDoorTie
import Derived.Test.YthhfccnhkadkcaaDoorLoad
import Derived.Test.YthhfccnhkadkcaaDoorKb
import Derived.Test.YthhfccnhkadkcaaDoorT

/- Functions and what they are held to do: bound to their code. -/
namespace Go.SL.A
open Go Go.SL Go.SL.S
set_option maxRecDepth 100000
noncomputable def Cd10 : Ctx := ⟨Go.Proofs.Tryd.prog, D, Gd32, (fun _ _ => none), fun _ => []⟩
def annd10 (_k : List Int) (_p : Int) : Nat → St → Option Ann := fun _ _ => none
def outd10 (_k : List Int) (_p : Int) : COut := ⟨[], .v .bool true, [], []⟩
def spd10 : Spec := fun args ins => match args, ins with
  | [⟨.arr 16 (.int .u8), k⟩, ⟨.int .i64, p⟩], [] => some (outd10 k p)
  | _, _ => none
def Gd10 := addG Gd32 10 spd10
def Pd10 (k : List Int) (p : Int) : Prop :=
  bif !mayL p then ∀ (b : Bool), decide (layE p = (7 : Int)) = b → bif bif b then Ty.eqb (Ty.arr (127 : Nat) Ty.bool) (layW k p) (false :: List.replicate (nat_lit 126) false) else false then ((b = true → b = true ∧ b =
  true) ∧ (b = true → b = true)) ∧ decide (chkF k p = (-1 : Int)) = true else ((b = true → b = true ∧ b = true) ∧ (b = true → b = true) ∧ (false = true → false = true)) ∧ false = true else bif decide (layE p = (0 : Int))
  then bif Ty.eqb (Ty.arr (127 : Nat) Ty.bool) (layW k p) (encF (numP k p)) then (mayL p = true ∧ mayL p = true) ∧ decide (chkF k p = sumP k p) = true else (mayL p = true ∧ (false = true → false = true)) ∧ false = true else
  ((false = true → false = true) ∧ (false = true → false = true)) ∧ false = true
theorem vcd10 (k : List Int) (p : Int) : Pd10 k p = vcFun Cd10 (annd10 k p) Go.Proofs.Tryd.f10 [⟨.arr 16 (.int .u8), k⟩, ⟨.int .i64, p⟩] [] (outd10 k p) := by kernel_rfl

end Go.SL.A

/- LoadPlays' condition. -/
namespace Go.SL.A
open Go Go.SL Go.SL.S
set_option maxRecDepth 100000

theorem eqb_reflB {n : Nat} (x : List Bool) : Ty.eqb (.arr n .bool) x x = true := by
  show (List.range n).all (fun i => decide (List.getD x i false = List.getD x i false)) = true
  simp
theorem pured10 (k : List Int) (p : Int) : Pd10 k p := by
  unfold Pd10
  cases hB : mayL p with
  | false =>
    have eW : layW k p = false :: List.replicate 126 false := by unfold layW; rw [hB]; rfl
    have eE : layE p = 7 := by unfold layE; rw [hB]; rfl
    have eC : chkF k p = -1 := by unfold chkF; rw [hB]; rfl
    rw [Bool.not_false, cond_true, eW, eE, eC, eqb_reflB]
    rintro _ rfl
    simp
  | true =>
    have eW : layW k p = encF (numP k p) := by unfold layW; rw [hB]; rfl
    have eE : layE p = 0 := by unfold layE; rw [hB]; rfl
    have eC : chkF k p = sumP k p := by unfold chkF; rw [hB]; rfl
    rw [Bool.not_true, cond_false, eW, eE, eC, eqb_reflB]
    simp
end Go.SL.A

/- Functions do what they are held to do. -/
namespace Go.SL.A
open Go Go.SL Go.SL.S
theorem sndd10 : Sound Go.Proofs.Tryd.prog Gd10 := sndd32.add ⟨_, Go.Proofs.Tryd.func10, by kernel_rfl, by kernel_rfl⟩ (by
  intro args ins out h hp
  unfold spd10 at h
  split at h
  · rename_i k p
    cases h
    exact vcFun_ok (C := Cd10) good sndd32 Meth.none mix Go.Proofs.Tryd.func10 (annd10 k p) (fun hw => by rw [← vcd10 k p]; exact pured10 k p)
  · cases h)

end Go.SL.A

/- LoadPlays: the law returns true, whatever its arguments; each argument reads afterwards as before. No condition. -/
namespace Go.Proofs.YthhfccnhkadkcaaDoor
open Go Go.SL Go.SL.S Go.ChangeShapes Go.WideShapes Go.ChangeAt Go.WideMaps Go.WideElems Go.RowKit
set_option maxRecDepth 100000

theorem parsT : ((Go.Proofs.Tryd.f10.params.toList).all fun t => Nat.blt t Go.Proofs.Tryd.prog.types.size) = true := by kernel_rfl
theorem parsL : Go.Proofs.Tryd.f10.params.toList = [23, 3] := by kernel_rfl
theorem law_pure : ∀ avs bls, argsOk Go.SL.A.D Go.Proofs.Tryd.f10.params.toList 0 avs bls → VCall Go.Proofs.Tryd.prog 10 avs bls ⟨[], .v .bool true, [], []⟩ := by
  rw [parsL]
  intro avs bls h
  replace h : ∃ (t : Ty) (x : t.I) (avs' : List AV), Go.SL.A.D.ty 23 = some t ∧ avs = ⟨t, x⟩ :: avs' ∧ argsOk Go.SL.A.D [3] 0 avs' bls := h
  obtain ⟨t, x0, avs, ht, rfl, h⟩ := h
  obtain rfl : .arr 16 (.int .u8) = t := Option.some.inj ((show (some (.arr 16 (.int .u8)) : Option Ty) = Go.SL.A.D.ty 23 by kernel_rfl).trans ht)
  replace h : ∃ (t : Ty) (x : t.I) (avs' : List AV), Go.SL.A.D.ty 3 = some t ∧ avs = ⟨t, x⟩ :: avs' ∧ argsOk Go.SL.A.D [] 0 avs' bls := h
  obtain ⟨t, x1, avs, ht, rfl, h⟩ := h
  obtain rfl : .int .i64 = t := Option.some.inj ((show (some (.int .i64) : Option Ty) = Go.SL.A.D.ty 3 by kernel_rfl).trans ht)
  obtain ⟨rfl, rfl⟩ : avs = [] ∧ bls = [] := h
  have q := (Go.SL.A.sndd10 10 Go.SL.A.spd10 rfl).2 [⟨.arr 16 (.int .u8), x0⟩, ⟨.int .i64, x1⟩] [] _ rfl (trivial)
  exact q

abbrev laidL : List (String × DataW Unit) := [("belfry/sip.signs", Rows.laid_belfry_sip_signs)]
theorem lifted (os : Os) (started : os.Started) (H : Type) (enc : TypeId × Value → H) :
    ReturnsInHanded {} Go.Proofs.Tryd.checked os 10 .any (fun w args => (Rows.loadPlaysSpec.pre enc Go.Proofs.Tryd.prog Go.Proofs.Tryd.f10 [] false w args ∧ laidMetH Go.Proofs.Tryd.prog laidL w) ∧ sizedMet enc Go.Proofs.Tryd.prog Go.Proofs.Tryd.f10 (OpenSpec.ofChange Rows.loadPlaysSpec) false w args) (Rows.loadPlaysSpec.post enc Go.Proofs.Tryd.prog Go.Proofs.Tryd.f10 false true false false) := by
  refine returnsInHanded_of_change_and (C := Go.Proofs.Tryd.checked) (X := fun w _ => laidMetH Go.Proofs.Tryd.prog laidL w) (fun _ _ _ hh h => h.of_heap hh) Seat.own started (by kernel_rfl) Go.Proofs.Tryd.func10
    (ChangeSpec.witness_at (enc := enc) (C := Go.Proofs.Tryd.checked) (os := os) (X := fun w _ => laidMetH Go.Proofs.Tryd.prog laidL w) false (Seat.laidWorld os) #[.agg (Array.replicate 16 (.int .u8 0)), .int .i64 0] 8 rfl (by kernel_rfl) (by kernel_rfl) (by kernel_rfl) (by kernel_rfl) (by kernel_rfl) (Seat.laidWorld_met os _)) ?_
  intro W base args ds gs before hval hW _ _ hL _
  refine law_calls (D := Go.SL.A.D) Go.SL.A.good Seat.kids Seat.slicesFull (fun t ht => Nat.le_of_ble_eq_true (List.all_eq_true.1 parsT t ht)) (by kernel_rfl) (show Go.Proofs.Tryd.f10.resultTypes = #[4] by kernel_rfl) Go.Proofs.Tryd.underlying4 rfl (fun ds h => ?_) law_pure (fun g a hg => Seat.signs_gl hL g a hg) hval hW
  have h : ds.length = 2 := h
  match ds, h with
  | [_, _], _ => rfl

theorem joined : joinedFacts Go.Proofs.Tryd.prog 10 Go.Proofs.Tryd.f10 Rows.loadPlaysSpec Rows.loadPlaysRow = true := by
  unfold joinedFacts
  exact (andT (andT (andT (andT (andT (andT (andT (andT (andT (andT (andT (andT (andT (andT (andT (andT (andT (andT (andT (andT (andT (andT (andT (andT (andT (andT (andT (andT (andT (andT (andT (by as_aux_lemma => kernel_rfl) Seat.laidOut) Seat.mapsRowed) (by as_aux_lemma => kernel_rfl)) (by as_aux_lemma => kernel_rfl)) (by as_aux_lemma => kernel_rfl)) Seat.stops) (by as_aux_lemma => kernel_rfl)) Seat.knobs) (by as_aux_lemma => kernel_rfl)) (by as_aux_lemma => kernel_rfl)) (by as_aux_lemma => kernel_rfl)) (by as_aux_lemma => kernel_rfl)) (by as_aux_lemma => kernel_rfl)) (by as_aux_lemma => kernel_rfl)) (by as_aux_lemma => kernel_rfl)) (by as_aux_lemma => kernel_rfl)) (by as_aux_lemma => kernel_rfl)) (by as_aux_lemma => kernel_rfl)) (by as_aux_lemma => kernel_rfl)) (by as_aux_lemma => kernel_rfl)) (by as_aux_lemma => kernel_rfl)) (by as_aux_lemma => kernel_rfl)) (by as_aux_lemma => kernel_rfl)) Seat.heard) Seat.mayEnter) (by rw [Seat.lifts]; rfl)) (by rw [Seat.made]; rfl)) (by as_aux_lemma => kernel_rfl)) (by as_aux_lemma => kernel_rfl)) (by as_aux_lemma => kernel_rfl)) (by as_aux_lemma => kernel_rfl))

theorem loadPlays_holds : Rows.LoadPlaysSaid :=
  OpenClaim.holds_of_wide 10 Go.Proofs.Tryd.f10 rfl rfl rfl rfl rfl rfl rfl ⟨rfl, rfl, rfl, rfl, rfl⟩ rfl rfl rfl rfl rfl (by kernel_rfl) Go.Proofs.Tryd.func10 joined
    (of_decide_eq_true (by kernel_rfl)) (by unfold Func.isWrapper; first | (rw [if_pos (by decide +kernel)]; kernel_rfl) | (rw [if_neg (by decide +kernel)]; exact ⟨rfl, rfl⟩))
    (fun os started H enc _ => lifted os started H enc)

theorem noStand : ((Go.Proofs.Tryd.f10.params.toList).all fun t => !Go.Proofs.Tryd.prog.wantsStandIn t) = true := by kernel_rfl
theorem loadPlaysCard_holds : Rows.LoadPlaysCardSaid :=
  Claim7.holds_tied_plain_at .later [] [.data] true (true, "c88e0687c222961115da2a84d0fc17cee095a0dd0289832c0327b0b27169c1bb") true
    loadPlays_holds (fun _ h => by cases h) (by kernel_rfl) (fun _ h => by cases h) loadPlays_row_tie rfl ⟨rfl, rfl⟩ (by kernel_rfl) rfl
    (fun f fn hf hfn => by
      obtain rfl : f = 10 := Option.some.inj (hf.symm.trans (by kernel_rfl))
      obtain rfl : fn = Go.Proofs.Tryd.f10 := Option.some.inj (hfn.symm.trans Go.Proofs.Tryd.func10)
      refine ⟨by kernel_rfl, fun j t ht => ?_⟩
      have hm := List.all_eq_true.1 noStand t (List.mem_of_getElem? (by rw [Array.getElem?_toList]; exact ht))
      exact (show Go.Proofs.Tryd.prog.wantsStandIn t = false by simpa using hm))
    (by kernel_rfl)

#print axioms loadPlaysCard_holds
end Go.Proofs.YthhfccnhkadkcaaDoor
