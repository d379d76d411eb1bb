/- AmendClean returns true, whatever its arguments, which read afterwards as before: no condition. -/
import Derived.Test.YthhfccnhkadkcaaRows
import Derived.Test.YthhfccnhkadkcaaAmend
import Derived.Test.YthhfccnhkadkcaaKb
import Derived.Test.YthhfccnhkadkcaaT

/- Functions and what they are held to do: bound to their code. -/
namespace Go.SL.A
open Go Go.SL Go.SL.S
set_option maxRecDepth 100000
noncomputable def C27 : Ctx := ⟨Go.Proofs.Try.prog, D, G67, (fun _ _ => none), fun _ => []⟩
def ann27 (_x : Int) (_n : Nat) (_o : List Int) : Nat → St → Option Ann := fun _ _ => none
def out27 (_x : Int) (n : Nat) (o : List Int) : COut := ⟨[n = o.length], .v .bool true, [], []⟩
def sp27 : Spec := fun args ins => match args, ins with
  | [⟨.int .u64, x⟩, ⟨.ref .slice, .slice 0 (.int .u8) [] 0 n⟩], [⟨true, false, .int .u8, o⟩] => some (out27 x n o)
  | _, _ => none
def G27 := addG G67 27 sp27
def P27 (x : Int) (n : Nat) (o : List Int) : Prop :=
  ∀ (b : Bool), false = b → (((!b) = true → (!b) = true) ∧ ((!b) = true → (!b) = true) ∧ (b = false → (!b) = true)) ∧ bif bif b then true else decide ((20 : Int) < (↑n : Int)) then true = true ∧ o = o ∧ true = true else (n
  = List.length o ∧ n ≤ (1000000 : Nat)) ∧ ∀ (b : Bool), decide (amE (encF x) (holesF o) = (0 : Int)) = b → bif bif b then decide (amI (encF x) (holesF o) = x) else false then ((b = true → b = true ∧ b = true) ∧ (b = true →
  b = true)) ∧ nearB (encF x) (holesF o) (encF x) = true ∧ o = o ∧ true = true else ((b = true → b = true ∧ b = true) ∧ (b = true → b = true) ∧ (false = true → false = true)) ∧ false = true ∧ o = o ∧ true = true
theorem vc27 (x : Int) (n : Nat) (o : List Int) : P27 x n o = vcFun C27 (ann27 x n o) Go.Proofs.Try.f27 [⟨.int .u64, x⟩, ⟨.ref .slice, .slice 0 (.int .u8) [] 0 n⟩] [⟨true, false, .int .u8, o⟩] (out27 x n o) := by kernel_rfl

end Go.SL.A

/- AmendClean's condition. -/
namespace Go.SL.A
open Go Go.SL Go.SL.S
set_option maxRecDepth 100000

theorem hw27 {x : Int} {n : Nat} {o : List Int} (hw : Go.SL.allP (List.flatMap (fun a : AV => a.t.wf a.x) [⟨.int .u64, x⟩, ⟨.ref .slice, .slice 0 (.int .u8) [] 0 n⟩] ++ List.flatMap Blk.wf [⟨true, false, .int .u8, o⟩])) : 0 ≤ x ∧ x ≤ 18446744073709551615 := by
  simp only [List.flatMap_cons, List.flatMap_nil, Ty.wf, Blk.wf, List.append_nil, List.cons_append, List.nil_append, Go.SL.allP] at hw
  exact ⟨hw.1, hw.2.1⟩

theorem pure27 (x : Int) (n : Nat) (o : List Int) (h1 : n = o.length) (hx : 0 ≤ x ∧ x ≤ 18446744073709551615) : P27 x n o := by
  unfold P27
  rintro _ rfl
  refine ⟨by simp, ?_⟩
  rw [cond_false]
  by_cases hc : (20 : Int) < (n : Int)
  · rw [decide_eq_true hc, cond_true]; simp
  · rw [decide_eq_false hc, cond_false]
    refine ⟨⟨h1, by omega⟩, ?_⟩
    have hcn := holes_cn o
    have hf : far6 (encF x) (holesF o) (encF x) ≤ 20 := by rw [self_far]; omega
    obtain ⟨e1, e2⟩ := am_enc hx hf
    rw [near_enc, decide_eq_true hf, e1, e2]
    rintro _ rfl
    simp
end Go.SL.A

/- Functions do what they are held to do. -/
namespace Go.SL.A
open Go Go.SL Go.SL.S
theorem snd27 : Sound Go.Proofs.Try.prog G27 := snd67.add ⟨_, Go.Proofs.Try.func27, by kernel_rfl, by kernel_rfl⟩ (by
  intro args ins out h hp
  unfold sp27 at h
  split at h
  · rename_i x n o
    cases h
    exact vcFun_ok (C := C27) good snd67 Meth.none mix Go.Proofs.Try.func27 (ann27 x n o) (fun hw => by rw [← vc27 x n o]; exact pure27 x n o hp (hw27 hw))
  · cases h)

end Go.SL.A

/- AmendClean: the law returns true, whatever its arguments; each argument reads afterwards as before. No condition. -/
namespace Go.Proofs.Ythhfccnhkadkcaa
open Go Go.SL Go.SL.S Go.ChangeShapes Go.WideShapes Go.ChangeAt Go.WideMaps Go.WideElems Go.RowKit
set_option maxRecDepth 100000

theorem parsT : ((Go.Proofs.Try.f27.params.toList).all fun t => Nat.blt t Go.Proofs.Try.prog.types.size) = true := by kernel_rfl
theorem parsL : Go.Proofs.Try.f27.params.toList = [86, 87] := by kernel_rfl
theorem law_pure : ∀ avs bls, argsOk Go.SL.A.D Go.Proofs.Try.f27.params.toList 0 avs bls → VCall Go.Proofs.Try.prog 27 avs bls ⟨[], .v .bool true, [], []⟩ := by
  rw [parsL]
  intro avs bls h
  replace h : ∃ (t : Ty) (x : t.I) (avs' : List AV), Go.SL.A.D.ty 86 = some t ∧ avs = ⟨t, x⟩ :: avs' ∧ argsOk Go.SL.A.D [87] 0 avs' bls := h
  obtain ⟨t, x0, avs, ht, rfl, h⟩ := h
  obtain rfl : .int .u64 = t := Option.some.inj ((show (some (.int .u64) : Option Ty) = Go.SL.A.D.ty 86 by kernel_rfl).trans ht)
  replace h : ∃ (t : Ty) (xs : List t.I) (avs' : List AV) (bls' : List Blk), Go.SL.A.D.ty 5 = some t ∧ avs = ⟨.ref .slice, .slice 0 t [] 0 xs.length⟩ :: avs' ∧ bls = ⟨true, false, t, xs⟩ :: bls' ∧ argsOk Go.SL.A.D [] 1 avs' bls' := h
  obtain ⟨t, x1, avs, bls, ht, rfl, rfl, h⟩ := h
  obtain rfl : .int .u8 = t := Option.some.inj ((show (some (.int .u8) : Option Ty) = Go.SL.A.D.ty 5 by kernel_rfl).trans ht)
  obtain ⟨rfl, rfl⟩ : avs = [] ∧ bls = [] := h
  have q := (Go.SL.A.snd27 27 Go.SL.A.sp27 rfl).2 [⟨.int .u64, x0⟩, ⟨.ref .slice, .slice 0 (.int .u8) [] 0 x1.length⟩] [⟨true, false, .int .u8, x1⟩] _ rfl (rfl)
  exact q

theorem lifted (os : Os) (started : os.Started) (H : Type) (enc : TypeId × Value → H) :
    ReturnsInHanded {} Go.Proofs.Try.checked os 27 .any (Rows.amendCleanSpec.pre6 enc Go.Proofs.Try.prog Go.Proofs.Try.f27 Rows.amendCleanRow.domain false) (Rows.amendCleanSpec.post enc Go.Proofs.Try.prog Go.Proofs.Try.f27 false true false false) := by
  refine returnsInHanded_of_change (C := Go.Proofs.Try.checked) Seat.own started (by kernel_rfl) Go.Proofs.Try.func27
    (ChangeSpec.witness6 (enc := enc) (C := Go.Proofs.Try.checked) false ⟨#[], #[.int .u64 0, .slice none 0 0], []⟩ 8 (by kernel_rfl) (by kernel_rfl) (by kernel_rfl) (by kernel_rfl)) ?_
  intro W base args ds gs before hval hW _ _
  refine law_calls (D := Go.SL.A.D) Go.SL.A.good Seat.kids Seat.slicesFull (fun t ht => Nat.le_of_ble_eq_true (List.all_eq_true.1 parsT t ht)) (by kernel_rfl) (show Go.Proofs.Try.f27.resultTypes = #[4] by kernel_rfl) Go.Proofs.Try.underlying4 rfl (fun ds h => ?_) law_pure (fun _ _ h => by cases (show none = some _ from h)) hval hW
  have h : ds.length = 2 := h
  match ds, h with
  | [_, _], _ => rfl

theorem joined : joinedFacts Go.Proofs.Try.prog 27 Go.Proofs.Try.f27 Rows.amendCleanSpec Rows.amendCleanRow = true := by
  unfold joinedFacts
  exact (andT (andT (andT (andT (andT (andT (andT (andT (andT (andT (andT (andT (andT (andT (andT (andT (andT (andT (andT (andT (andT (andT (andT (andT (andT (andT (andT (andT (andT (andT (andT (by as_aux_lemma => kernel_rfl) Seat.laidOut) Seat.mapsRowed) (by as_aux_lemma => kernel_rfl)) (by as_aux_lemma => kernel_rfl)) (by as_aux_lemma => kernel_rfl)) Seat.stops) (by as_aux_lemma => kernel_rfl)) Seat.knobs) (by as_aux_lemma => kernel_rfl)) (by as_aux_lemma => kernel_rfl)) (by as_aux_lemma => kernel_rfl)) (by as_aux_lemma => kernel_rfl)) (by as_aux_lemma => kernel_rfl)) (by as_aux_lemma => kernel_rfl)) (by as_aux_lemma => kernel_rfl)) (by as_aux_lemma => kernel_rfl)) (by as_aux_lemma => kernel_rfl)) (by as_aux_lemma => kernel_rfl)) (by as_aux_lemma => kernel_rfl)) (by as_aux_lemma => kernel_rfl)) (by as_aux_lemma => kernel_rfl)) (by as_aux_lemma => kernel_rfl)) (by as_aux_lemma => kernel_rfl)) Seat.heard) Seat.mayEnter) (by rw [Seat.lifts]; rfl)) (by rw [Seat.made]; rfl)) (by as_aux_lemma => kernel_rfl)) (by as_aux_lemma => kernel_rfl)) (by as_aux_lemma => kernel_rfl)) (by as_aux_lemma => kernel_rfl))

theorem amendClean_holds : Rows.AmendCleanSaid :=
  OpenClaim.holds_of_wide 27 Go.Proofs.Try.f27 rfl rfl rfl rfl rfl rfl rfl ⟨rfl, rfl, rfl, rfl, rfl⟩ rfl rfl rfl rfl rfl (by kernel_rfl) Go.Proofs.Try.func27 joined
    (of_decide_eq_true (by kernel_rfl)) (by unfold Func.isWrapper; first | (rw [if_pos (by decide +kernel)]; kernel_rfl) | (rw [if_neg (by decide +kernel)]; exact ⟨rfl, rfl⟩))
    (fun os started H enc _ => lifted os started H enc)

#print axioms amendClean_holds
end Go.Proofs.Ythhfccnhkadkcaa
