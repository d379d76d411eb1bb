/- LoadChecks returns true, whatever its arguments, which read afterwards as before: no condition but that the package-level table holds what the program's text lays (tied by the card). -/
import Derived.Test.YthhfccnhkadkcaaDoorRows
import Derived.Test.YthhfccnhkadkcaaDoorCards
import Derived.Test.YthhfccnhkadkcaaDoorTie
import Derived.Test.YthhfccnhkadkcaaDoorLoad
import Derived.Test.YthhfccnhkadkcaaDoorKb
import Derived.Test.YthhfccnhkadkcaaDoorT

/- Functions and what they are held to do: bound to their code. -/
namespace Go.SL.A
open Go Go.SL Go.SL.S
set_option maxRecDepth 100000
noncomputable def Cd9 : Ctx := ⟨Go.Proofs.Tryd.prog, D, Gd32, (fun _ _ => none), fun _ => []⟩
def annd9 (_k : List Int) (_x : Int) : Nat → St → Option Ann := fun _ _ => none
def outd9 (_k : List Int) (_x : Int) : COut := ⟨[], .v .bool true, [], []⟩
def spd9 : Spec := fun args ins => match args, ins with
  | [⟨.arr 16 (.int .u8), k⟩, ⟨.int .u64, x⟩], [] => some (outd9 k x)
  | _, _ => none
def Gd9 := addG Gd32 9 spd9
def Pd9 (k : List Int) (x : Int) : Prop :=
  (281474976710656 : Int) ≠ (0 : Int) ∧ ((281474976710656 : Int) ≠ (0 : Int) ∧ mayL (IntKind.wrap IntKind.i64 (Int.tmod x (281474976710656 : Int))) = true) ∧ bif !decide (IntKind.wrap IntKind.u64 (Int.tdiv x
  (281474976710656 : Int)) = IntKind.wrap IntKind.u64 (sumP k (IntKind.wrap IntKind.i64 (Int.tmod x (281474976710656 : Int))))) then ∀ (b : Bool), decide (readE k x = (6 : Int)) = b → ((b = true → b = true) ∧ (b = true → b
  = true)) ∧ (bif b then decide (readI k x = (0 : Int)) else false) = true else ∀ (b : Bool), decide (readE k x = (0 : Int)) = b → ((b = true → b = true ∧ b = true) ∧ (b = true → b = true)) ∧ (bif b then decide (readI k x =
  IntKind.wrap IntKind.i64 (Int.tmod x (281474976710656 : Int))) else false) = true
theorem vcd9 (k : List Int) (x : Int) : Pd9 k x = vcFun Cd9 (annd9 k x) Go.Proofs.Tryd.f9 [⟨.arr 16 (.int .u8), k⟩, ⟨.int .u64, x⟩] [] (outd9 k x) := by kernel_rfl

end Go.SL.A

/- LoadChecks' condition. -/
namespace Go.SL.A
open Go Go.SL Go.SL.S
set_option maxRecDepth 100000

theorem pured9 (k : List Int) (x : Int) (hx : 0 ≤ x ∧ x < 18446744073709551616) : Pd9 k x := by
  unfold Pd9
  have d := tdm x (k := 281474976710656) (by decide)
  have e1 : IntKind.i64.wrap (x.tmod 281474976710656) = x % 281474976710656 := by rw [w64 (by omega) (by omega)]; omega
  have e2 : IntKind.u64.wrap (x.tdiv 281474976710656) = x / 281474976710656 := by rw [w_u64 (by omega) (by omega)]; omega
  have hs := sumP_fit k (x % 281474976710656)
  rw [e1, e2, w_u64 hs.1 (by omega)]
  refine ⟨by decide, ⟨by decide, may_of (mod48 x)⟩, ?_⟩
  have hB : readB k x = decide (x / 281474976710656 = sumP k (x % 281474976710656)) := rfl
  by_cases h : x / 281474976710656 = sumP k (x % 281474976710656)
  · rw [decide_eq_true h] at hB
    have eI : readI k x = x % 281474976710656 := by unfold readI; rw [hB]; rfl
    have eE : readE k x = 0 := by unfold readE; rw [hB]; rfl
    rw [decide_eq_true h, Bool.not_true, cond_false, eI, eE]
    rintro _ rfl
    simp
  · rw [decide_eq_false h] at hB
    have eI : readI k x = 0 := by unfold readI; rw [hB]; rfl
    have eE : readE k x = 6 := by unfold readE; rw [hB]; rfl
    rw [decide_eq_false h, Bool.not_false, cond_true, eI, eE]
    rintro _ rfl
    simp
end Go.SL.A

/- Functions do what they are held to do. -/
namespace Go.SL.A
open Go Go.SL Go.SL.S
theorem sndd9 : Sound Go.Proofs.Tryd.prog Gd9 := sndd32.add ⟨_, Go.Proofs.Tryd.func9, by kernel_rfl, by kernel_rfl⟩ (by
  intro args ins out h hp
  unfold spd9 at h
  split at h
  · rename_i k x
    cases h
    exact vcFun_ok (C := Cd9) good sndd32 Meth.none mix Go.Proofs.Tryd.func9 (annd9 k x) (fun hw => by rw [← vcd9 k x]; exact pured9 k x (hwd38 hw))
  · cases h)

end Go.SL.A

/- LoadChecks: the law returns true, whatever its arguments; each argument reads afterwards as before. No condition. -/
namespace Go.Proofs.YthhfccnhkadkcaaDoor
open Go Go.SL Go.SL.S Go.ChangeShapes Go.WideShapes Go.ChangeAt Go.WideMaps Go.WideElems Go.RowKit
set_option maxRecDepth 100000

theorem parsT : ((Go.Proofs.Tryd.f9.params.toList).all fun t => Nat.blt t Go.Proofs.Tryd.prog.types.size) = true := by kernel_rfl
theorem parsL : Go.Proofs.Tryd.f9.params.toList = [23, 65] := by kernel_rfl
theorem law_pure : ∀ avs bls, argsOk Go.SL.A.D Go.Proofs.Tryd.f9.params.toList 0 avs bls → VCall Go.Proofs.Tryd.prog 9 avs bls ⟨[], .v .bool true, [], []⟩ := by
  rw [parsL]
  intro avs bls h
  replace h : ∃ (t : Ty) (x : t.I) (avs' : List AV), Go.SL.A.D.ty 23 = some t ∧ avs = ⟨t, x⟩ :: avs' ∧ argsOk Go.SL.A.D [65] 0 avs' bls := h
  obtain ⟨t, x0, avs, ht, rfl, h⟩ := h
  obtain rfl : .arr 16 (.int .u8) = t := Option.some.inj ((show (some (.arr 16 (.int .u8)) : Option Ty) = Go.SL.A.D.ty 23 by kernel_rfl).trans ht)
  replace h : ∃ (t : Ty) (x : t.I) (avs' : List AV), Go.SL.A.D.ty 65 = some t ∧ avs = ⟨t, x⟩ :: avs' ∧ argsOk Go.SL.A.D [] 0 avs' bls := h
  obtain ⟨t, x1, avs, ht, rfl, h⟩ := h
  obtain rfl : .int .u64 = t := Option.some.inj ((show (some (.int .u64) : Option Ty) = Go.SL.A.D.ty 65 by kernel_rfl).trans ht)
  obtain ⟨rfl, rfl⟩ : avs = [] ∧ bls = [] := h
  have q := (Go.SL.A.sndd9 9 Go.SL.A.spd9 rfl).2 [⟨.arr 16 (.int .u8), x0⟩, ⟨.int .u64, x1⟩] [] _ rfl (trivial)
  exact q

abbrev laidL : List (String × DataW Unit) := [("belfry/sip.signs", Rows.laid_belfry_sip_signs)]
theorem lifted (os : Os) (started : os.Started) (H : Type) (enc : TypeId × Value → H) :
    ReturnsInHanded {} Go.Proofs.Tryd.checked os 9 .any (fun w args => (Rows.loadChecksSpec.pre enc Go.Proofs.Tryd.prog Go.Proofs.Tryd.f9 [] false w args ∧ laidMetH Go.Proofs.Tryd.prog laidL w) ∧ sizedMet enc Go.Proofs.Tryd.prog Go.Proofs.Tryd.f9 (OpenSpec.ofChange Rows.loadChecksSpec) false w args) (Rows.loadChecksSpec.post enc Go.Proofs.Tryd.prog Go.Proofs.Tryd.f9 false true false false) := by
  refine returnsInHanded_of_change_and (C := Go.Proofs.Tryd.checked) (X := fun w _ => laidMetH Go.Proofs.Tryd.prog laidL w) (fun _ _ _ hh h => h.of_heap hh) Seat.own started (by kernel_rfl) Go.Proofs.Tryd.func9
    (ChangeSpec.witness_at (enc := enc) (C := Go.Proofs.Tryd.checked) (os := os) (X := fun w _ => laidMetH Go.Proofs.Tryd.prog laidL w) false (Seat.laidWorld os) #[.agg (Array.replicate 16 (.int .u8 0)), .int .u64 0] 8 rfl (by kernel_rfl) (by kernel_rfl) (by kernel_rfl) (by kernel_rfl) (by kernel_rfl) (Seat.laidWorld_met os _)) ?_
  intro W base args ds gs before hval hW _ _ hL _
  refine law_calls (D := Go.SL.A.D) Go.SL.A.good Seat.kids Seat.slicesFull (fun t ht => Nat.le_of_ble_eq_true (List.all_eq_true.1 parsT t ht)) (by kernel_rfl) (show Go.Proofs.Tryd.f9.resultTypes = #[4] by kernel_rfl) Go.Proofs.Tryd.underlying4 rfl (fun ds h => ?_) law_pure (fun g a hg => Seat.signs_gl hL g a hg) hval hW
  have h : ds.length = 2 := h
  match ds, h with
  | [_, _], _ => rfl

theorem joined : joinedFacts Go.Proofs.Tryd.prog 9 Go.Proofs.Tryd.f9 Rows.loadChecksSpec Rows.loadChecksRow = true := by
  unfold joinedFacts
  exact (andT (andT (andT (andT (andT (andT (andT (andT (andT (andT (andT (andT (andT (andT (andT (andT (andT (andT (andT (andT (andT (andT (andT (andT (andT (andT (andT (andT (andT (andT (andT (by as_aux_lemma => kernel_rfl) Seat.laidOut) Seat.mapsRowed) (by as_aux_lemma => kernel_rfl)) (by as_aux_lemma => kernel_rfl)) (by as_aux_lemma => kernel_rfl)) Seat.stops) (by as_aux_lemma => kernel_rfl)) Seat.knobs) (by as_aux_lemma => kernel_rfl)) (by as_aux_lemma => kernel_rfl)) (by as_aux_lemma => kernel_rfl)) (by as_aux_lemma => kernel_rfl)) (by as_aux_lemma => kernel_rfl)) (by as_aux_lemma => kernel_rfl)) (by as_aux_lemma => kernel_rfl)) (by as_aux_lemma => kernel_rfl)) (by as_aux_lemma => kernel_rfl)) (by as_aux_lemma => kernel_rfl)) (by as_aux_lemma => kernel_rfl)) (by as_aux_lemma => kernel_rfl)) (by as_aux_lemma => kernel_rfl)) (by as_aux_lemma => kernel_rfl)) (by as_aux_lemma => kernel_rfl)) Seat.heard) Seat.mayEnter) (by rw [Seat.lifts]; rfl)) (by rw [Seat.made]; rfl)) (by as_aux_lemma => kernel_rfl)) (by as_aux_lemma => kernel_rfl)) (by as_aux_lemma => kernel_rfl)) (by as_aux_lemma => kernel_rfl))

theorem loadChecks_holds : Rows.LoadChecksSaid :=
  OpenClaim.holds_of_wide 9 Go.Proofs.Tryd.f9 rfl rfl rfl rfl rfl rfl rfl ⟨rfl, rfl, rfl, rfl, rfl⟩ rfl rfl rfl rfl rfl (by kernel_rfl) Go.Proofs.Tryd.func9 joined
    (of_decide_eq_true (by kernel_rfl)) (by unfold Func.isWrapper; first | (rw [if_pos (by decide +kernel)]; kernel_rfl) | (rw [if_neg (by decide +kernel)]; exact ⟨rfl, rfl⟩))
    (fun os started H enc _ => lifted os started H enc)

theorem noStand : ((Go.Proofs.Tryd.f9.params.toList).all fun t => !Go.Proofs.Tryd.prog.wantsStandIn t) = true := by kernel_rfl
theorem loadChecksCard_holds : Rows.LoadChecksCardSaid :=
  Claim7.holds_tied_plain_at .later [] [.data] true (true, "c88e0687c222961115da2a84d0fc17cee095a0dd0289832c0327b0b27169c1bb") true
    loadChecks_holds (fun _ h => by cases h) (by kernel_rfl) (fun _ h => by cases h) loadChecks_row_tie rfl ⟨rfl, rfl⟩ (by kernel_rfl) rfl
    (fun f fn hf hfn => by
      obtain rfl : f = 9 := Option.some.inj (hf.symm.trans (by kernel_rfl))
      obtain rfl : fn = Go.Proofs.Tryd.f9 := Option.some.inj (hfn.symm.trans Go.Proofs.Tryd.func9)
      refine ⟨by kernel_rfl, fun j t ht => ?_⟩
      have hm := List.all_eq_true.1 noStand t (List.mem_of_getElem? (by rw [Array.getElem?_toList]; exact ht))
      exact (show Go.Proofs.Tryd.prog.wantsStandIn t = false by simpa using hm))
    (by kernel_rfl)

#print axioms loadChecksCard_holds
end Go.Proofs.YthhfccnhkadkcaaDoor
