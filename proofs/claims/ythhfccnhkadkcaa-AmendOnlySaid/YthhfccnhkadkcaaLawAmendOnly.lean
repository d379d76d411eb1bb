/- AmendOnly returns true, whatever its arguments, which read afterwards as before: no condition. -/
import Derived.Test.YthhfccnhkadkcaaRows
import Derived.Test.YthhfccnhkadkcaaAmend
import Derived.Test.YthhfccnhkadkcaaKb
import Derived.Test.YthhfccnhkadkcaaT

/- Functions and what they are held to do: bound to their code. -/
namespace Go.SL.A
open Go Go.SL Go.SL.S
set_option maxRecDepth 100000
noncomputable def C23 : Ctx := ⟨Go.Proofs.Try.prog, D, G67, (fun _ _ => none), fun _ => []⟩
def ann23 (_w h : List Bool) : Nat → St → Option Ann := fun _ _ => some ⟨Nat, [2, 3, 5, 6], [0, 1], fun i => [(8, .v (.int .i64) (i : Int)), (7, .v (.int .i64) (cn i (bw h) : Int))], fun _ => [], fun i => i ≤ 127, fun i => 127 - i⟩
def out23 (_w _h : List Bool) : COut := ⟨[], .v .bool true, [], []⟩
def sp23 : Spec := fun args ins => match args, ins with
  | [⟨.arr 127 .bool, w⟩, ⟨.arr 127 .bool, h⟩], [] => some (out23 w h)
  | _, _ => none
def G23 := addG G67 23 sp23
def P23 (w h : List Bool) : Prop :=
  ∃ (x : Nat), (((0 : Nat) = (0 : Nat) ∧ (0 : Nat) = (0 : Nat) ∧ amI w h = amI w h ∧ amE w h = amE w h ∧ (0 : Int) = (↑(cn x (bw h)) : Int) ∧ (0 : Int) = (↑x : Int) ∧ w = w ∧ false = false ∧ h = h ∧ false = false) ∧ x ≤
  (127 : Nat)) ∧ ∀ (x : Nat), x ≤ (127 : Nat) → IntKind.min IntKind.i64 ≤ (↑x : Int) ∧ (↑x : Int) ≤ IntKind.max IntKind.i64 ∧ IntKind.min IntKind.i64 ≤ (↑(cn x (bw h)) : Int) ∧ (↑(cn x (bw h)) : Int) ≤ IntKind.max
  IntKind.i64 → bif decide ((↑x : Int) < (127 : Int)) then (((0 : Int) ≤ (↑x : Int) ∧ (↑x : Int) < (↑(127 : Nat) : Int)) ∧ Int.toNat (↑x : Int) < (127 : Nat)) ∧ bif List.getD h (Int.toNat (↑x : Int)) false then ∃ (y : Nat),
  ((0 : Nat) = (0 : Nat) ∧ (0 : Nat) = (0 : Nat) ∧ amI w h = amI w h ∧ amE w h = amE w h ∧ IntKind.wrap IntKind.i64 ((↑(cn x (bw h)) : Int) + (1 : Int)) = (↑(cn y (bw h)) : Int) ∧ IntKind.wrap IntKind.i64 ((↑x : Int) + (1 :
  Int)) = (↑y : Int) ∧ w = w ∧ false = false ∧ h = h ∧ false = false) ∧ y ≤ (127 : Nat) ∧ (127 : Nat) - y < (127 : Nat) - x else ∃ (y : Nat), ((0 : Nat) = (0 : Nat) ∧ (0 : Nat) = (0 : Nat) ∧ amI w h = amI w h ∧ amE w h =
  amE w h ∧ (↑(cn x (bw h)) : Int) = (↑(cn y (bw h)) : Int) ∧ IntKind.wrap IntKind.i64 ((↑x : Int) + (1 : Int)) = (↑y : Int) ∧ w = w ∧ false = false ∧ h = h ∧ false = false) ∧ y ≤ (127 : Nat) ∧ (127 : Nat) - y < (127 : Nat)
  - x else ∀ (b : Bool), (!decide (distB h w127 = (↑(cn x (bw h)) : Int))) = b → ∀ (b_1 : Bool), decide ((20 : Int) < (↑(cn x (bw h)) : Int)) = b_1 → (((!b) = true → (!b) = true) ∧ ((!b && !b && b_1) = true → (!b && !b &&
  b_1) = true) ∧ ((!b) = true → (!b && !b) = true ∧ (b_1 = true → (!b && !b && b_1) = true)) ∧ (b = false → (!b) = true)) ∧ bif bif b then true else bif b_1 then decide (amE w h = (0 : Int)) else false then false = true
  else bif !decide (amE w h = (0 : Int)) then ∀ (b : Bool), decide (amE w h = (5 : Int)) = b → ((b = true → b = true) ∧ (b = true → b = true)) ∧ (bif b then decide (amI w h = (0 : Int)) else false) = true else bif nearB w h
  (encF (amI w h)) then decide (far6 w h (encF (amI w h)) ≤ (20 : Int)) = true else (false = true → false = true) ∧ false = true
theorem vc23 (w h : List Bool) : P23 w h = vcFun C23 (ann23 w h) Go.Proofs.Try.f23 [⟨.arr 127 .bool, w⟩, ⟨.arr 127 .bool, h⟩] [] (out23 w h) := by kernel_rfl

end Go.SL.A

/- AmendOnly's condition. -/
namespace Go.SL.A
open Go Go.SL Go.SL.S
set_option maxRecDepth 100000

theorem pure23 (w h : List Bool) (hl : w.length = 127 ∧ h.length = 127) : P23 w h := by
  unfold P23
  simp only [eq_self, true_and, and_true, Int.toNat_natCast, Nat.zero_add]
  have cf := cn_fit (bw h)
  refine ⟨0, ⟨⟨rfl, rfl⟩, by omega⟩, fun i hi hw => ?_⟩
  clear hw
  by_cases hc : (i : Int) < 127
  · rw [decide_eq_true hc, cond_true]
    refine ⟨⟨⟨by omega, by omega⟩, by omega⟩, ?_⟩
    have hb : h.getD i false = bw h i := rfl
    have hs : cn (i + 1) (bw h) = cn i (bw h) + (if bw h i = true then 1 else 0) := rfl
    have hf := cf i
    rw [hb]
    cases hh : bw h i with
    | true =>
      rw [hh, if_pos rfl] at hs
      rw [cond_true]
      exact ⟨i + 1, ⟨by rw [w64 (by omega) (by omega)]; omega, step_i (by omega)⟩, by omega, by omega⟩
    | false =>
      rw [hh, if_neg (by simp)] at hs
      rw [cond_false]
      exact ⟨i + 1, ⟨by omega, step_i (by omega)⟩, by omega, by omega⟩
  · have : i = 127 := by omega
    subst this
    rw [decide_eq_false hc, cond_false]
    intro b hb b1 hb1
    have hd : distB h w127 = (cn 127 (bw h) : Int) := dist_holes h
    rw [decide_eq_true hd, Bool.not_true] at hb
    subst hb
    refine ⟨by cases b1 <;> simp, ?_⟩
    rw [cond_false]
    have hz : (bif b1 then decide (amE w h = 0) else false) = false := by
      cases b1 with
      | false => rfl
      | true =>
        have h20 := of_decide_eq_true hb1
        rw [cond_true]
        refine decide_eq_false fun he => ?_
        obtain ⟨_, _, hf⟩ := am_ok he
        rw [far_none] at hf
        omega
    rw [hz, cond_false]
    by_cases he : amE w h = 0
    · obtain ⟨_, hn, hf⟩ := am_ok he
      rw [decide_eq_true he, Bool.not_true, cond_false, hn, cond_true, decide_eq_true hf]
    · obtain ⟨e1, e2⟩ := am_bad he
      rw [decide_eq_false he, Bool.not_false, cond_true, e1, e2]
      rintro _ rfl
      simp
end Go.SL.A

/- Functions do what they are held to do. -/
namespace Go.SL.A
open Go Go.SL Go.SL.S
theorem snd23 : Sound Go.Proofs.Try.prog G23 := snd67.add ⟨_, Go.Proofs.Try.func23, by kernel_rfl, by kernel_rfl⟩ (by
  intro args ins out h hp
  unfold sp23 at h
  split at h
  · rename_i w h
    cases h
    exact vcFun_ok (C := C23) good snd67 Meth.none mix Go.Proofs.Try.func23 (ann23 w h) (fun hw => by rw [← vc23 w h]; exact pure23 w h (hw71 hw))
  · cases h)

end Go.SL.A

/- AmendOnly: the law returns true, whatever its arguments; each argument reads afterwards as before. No condition. -/
namespace Go.Proofs.Ythhfccnhkadkcaa
open Go Go.SL Go.SL.S Go.ChangeShapes Go.WideShapes Go.ChangeAt Go.WideMaps Go.WideElems Go.RowKit
set_option maxRecDepth 100000

theorem parsT : ((Go.Proofs.Try.f23.params.toList).all fun t => Nat.blt t Go.Proofs.Try.prog.types.size) = true := by kernel_rfl
theorem parsL : Go.Proofs.Try.f23.params.toList = [88, 88] := by kernel_rfl
theorem law_pure : ∀ avs bls, argsOk Go.SL.A.D Go.Proofs.Try.f23.params.toList 0 avs bls → VCall Go.Proofs.Try.prog 23 avs bls ⟨[], .v .bool true, [], []⟩ := by
  rw [parsL]
  intro avs bls h
  replace h : ∃ (t : Ty) (x : t.I) (avs' : List AV), Go.SL.A.D.ty 88 = some t ∧ avs = ⟨t, x⟩ :: avs' ∧ argsOk Go.SL.A.D [88] 0 avs' bls := h
  obtain ⟨t, x0, avs, ht, rfl, h⟩ := h
  obtain rfl : .arr 127 .bool = t := Option.some.inj ((show (some (.arr 127 .bool) : Option Ty) = Go.SL.A.D.ty 88 by kernel_rfl).trans ht)
  replace h : ∃ (t : Ty) (x : t.I) (avs' : List AV), Go.SL.A.D.ty 88 = some t ∧ avs = ⟨t, x⟩ :: avs' ∧ argsOk Go.SL.A.D [] 0 avs' bls := h
  obtain ⟨t, x1, avs, ht, rfl, h⟩ := h
  obtain rfl : .arr 127 .bool = t := Option.some.inj ((show (some (.arr 127 .bool) : Option Ty) = Go.SL.A.D.ty 88 by kernel_rfl).trans ht)
  obtain ⟨rfl, rfl⟩ : avs = [] ∧ bls = [] := h
  have q := (Go.SL.A.snd23 23 Go.SL.A.sp23 rfl).2 [⟨.arr 127 .bool, x0⟩, ⟨.arr 127 .bool, x1⟩] [] _ rfl (trivial)
  exact q

theorem lifted (os : Os) (started : os.Started) (H : Type) (enc : TypeId × Value → H) :
    ReturnsInHanded {} Go.Proofs.Try.checked os 23 .any (Rows.amendOnlySpec.pre6 enc Go.Proofs.Try.prog Go.Proofs.Try.f23 Rows.amendOnlyRow.domain false) (Rows.amendOnlySpec.post enc Go.Proofs.Try.prog Go.Proofs.Try.f23 false true false false) := by
  refine returnsInHanded_of_change (C := Go.Proofs.Try.checked) Seat.own started (by kernel_rfl) Go.Proofs.Try.func23
    (ChangeSpec.witness6 (enc := enc) (C := Go.Proofs.Try.checked) false ⟨#[], #[.agg (Array.replicate 127 (.bool false)), .agg (Array.replicate 127 (.bool false))], []⟩ 8 (by kernel_rfl) (by kernel_rfl) (by kernel_rfl) (by kernel_rfl)) ?_
  intro W base args ds gs before hval hW _ _
  refine law_calls (D := Go.SL.A.D) Go.SL.A.good Seat.kids Seat.slicesFull (fun t ht => Nat.le_of_ble_eq_true (List.all_eq_true.1 parsT t ht)) (by kernel_rfl) (show Go.Proofs.Try.f23.resultTypes = #[4] by kernel_rfl) Go.Proofs.Try.underlying4 rfl (fun ds h => ?_) law_pure (fun _ _ h => by cases (show none = some _ from h)) hval hW
  have h : ds.length = 2 := h
  match ds, h with
  | [_, _], _ => rfl

theorem joined : joinedFacts Go.Proofs.Try.prog 23 Go.Proofs.Try.f23 Rows.amendOnlySpec Rows.amendOnlyRow = true := by
  unfold joinedFacts
  exact (andT (andT (andT (andT (andT (andT (andT (andT (andT (andT (andT (andT (andT (andT (andT (andT (andT (andT (andT (andT (andT (andT (andT (andT (andT (andT (andT (andT (andT (andT (andT (by as_aux_lemma => kernel_rfl) Seat.laidOut) Seat.mapsRowed) (by as_aux_lemma => kernel_rfl)) (by as_aux_lemma => kernel_rfl)) (by as_aux_lemma => kernel_rfl)) Seat.stops) (by as_aux_lemma => kernel_rfl)) Seat.knobs) (by as_aux_lemma => kernel_rfl)) (by as_aux_lemma => kernel_rfl)) (by as_aux_lemma => kernel_rfl)) (by as_aux_lemma => kernel_rfl)) (by as_aux_lemma => kernel_rfl)) (by as_aux_lemma => kernel_rfl)) (by as_aux_lemma => kernel_rfl)) (by as_aux_lemma => kernel_rfl)) (by as_aux_lemma => kernel_rfl)) (by as_aux_lemma => kernel_rfl)) (by as_aux_lemma => kernel_rfl)) (by as_aux_lemma => kernel_rfl)) (by as_aux_lemma => kernel_rfl)) (by as_aux_lemma => kernel_rfl)) (by as_aux_lemma => kernel_rfl)) Seat.heard) Seat.mayEnter) (by rw [Seat.lifts]; rfl)) (by rw [Seat.made]; rfl)) (by as_aux_lemma => kernel_rfl)) (by as_aux_lemma => kernel_rfl)) (by as_aux_lemma => kernel_rfl)) (by as_aux_lemma => kernel_rfl))

theorem amendOnly_holds : Rows.AmendOnlySaid :=
  OpenClaim.holds_of_wide 23 Go.Proofs.Try.f23 rfl rfl rfl rfl rfl rfl rfl ⟨rfl, rfl, rfl, rfl, rfl⟩ rfl rfl rfl rfl rfl (by kernel_rfl) Go.Proofs.Try.func23 joined
    (of_decide_eq_true (by kernel_rfl)) (by unfold Func.isWrapper; first | (rw [if_pos (by decide +kernel)]; kernel_rfl) | (rw [if_neg (by decide +kernel)]; exact ⟨rfl, rfl⟩))
    (fun os started H enc _ => lifted os started H enc)

#print axioms amendOnly_holds
end Go.Proofs.Ythhfccnhkadkcaa
