/- AmendReach returns true, whatever its arguments, which read afterwards as before: no condition. -/
import Derived.Test.YthhfccnhkadkcaaRows
import Derived.Test.YthhfccnhkadkcaaAmend
import Derived.Test.YthhfccnhkadkcaaKb
import Derived.Test.YthhfccnhkadkcaaT

/- Functions and what they are held to do: bound to their code. -/
namespace Go.SL.A
open Go Go.SL Go.SL.S
set_option maxRecDepth 100000
noncomputable def C22 : Ctx := ⟨Go.Proofs.Try.prog, D, G67, (fun _ _ => none), fun _ => []⟩
def ann22 (_x : Int) (_n _m : Nat) (_a _o : List Int) : Nat → St → Option Ann := fun _ _ => none
def out22 (_x : Int) (n m : Nat) (a o : List Int) : COut := ⟨[n = a.length ∧ m = o.length], .v .bool true, [], []⟩
def sp22 : Spec := fun args ins => match args, ins with
  | [⟨.int .u64, x⟩, ⟨.ref .slice, .slice 0 (.int .u8) [] 0 n⟩, ⟨.ref .slice, .slice 1 (.int .u8) [] 0 m⟩], [⟨true, false, .int .u8, a⟩, ⟨true, false, .int .u8, o⟩] => some (out22 x n m a o)
  | _, _ => none
def G22 := addG G67 22 sp22
def P22 (x : Int) (n m : Nat) (a o : List Int) : Prop :=
  ∀ (b : Bool), false = b → ∀ (b_1 : Bool), (bif b then true else decide ((40 : Int) < (↑n : Int))) = b_1 → (((!b) = true → (!b) = true) ∧ ((!b) = true → (!b) = true) ∧ (b = false → (!b) = true) ∧ ((!b_1) = true → (!b_1) =
  true) ∧ ((!b_1) = true → (!b_1) = true) ∧ (b_1 = false → (!b_1) = true)) ∧ bif bif b_1 then true else decide ((40 : Int) < (↑m : Int)) then true = true ∧ a = a ∧ true = true ∧ o = o ∧ true = true else (n = List.length a ∧
  n ≤ (1000000 : Nat)) ∧ (m = List.length o ∧ m ≤ (1000000 : Nat)) ∧ bif decide (far6 (spoilF (encF x) a) (holesF o) (encF x) ≤ (20 : Int)) then ∀ (b : Bool), decide (amE (spoilF (encF x) a) (holesF o) = (0 : Int)) = b →
  ((b = true → b = true ∧ b = true) ∧ (b = true → b = true)) ∧ (bif b then decide (amI (spoilF (encF x) a) (holesF o) = x) else false) = true ∧ a = a ∧ true = true ∧ o = o ∧ true = true else bif !decide (amE (spoilF (encF
  x) a) (holesF o) = (0 : Int)) then ∀ (b : Bool), decide (amE (spoilF (encF x) a) (holesF o) = (5 : Int)) = b → ((b = true → b = true) ∧ (b = true → b = true)) ∧ (bif b then decide (amI (spoilF (encF x) a) (holesF o) = (0
  : Int)) else false) = true ∧ a = a ∧ true = true ∧ o = o ∧ true = true else bif !decide (amI (spoilF (encF x) a) (holesF o) = x) then decide (far6 (spoilF (encF x) a) (holesF o) (encF (amI (spoilF (encF x) a) (holesF o)))
  ≤ (20 : Int)) = true ∧ a = a ∧ true = true ∧ o = o ∧ true = true else (false = true → false = true) ∧ false = true ∧ a = a ∧ true = true ∧ o = o ∧ true = true
theorem vc22 (x : Int) (n m : Nat) (a o : List Int) : P22 x n m a o = vcFun C22 (ann22 x n m a o) Go.Proofs.Try.f22 [⟨.int .u64, x⟩, ⟨.ref .slice, .slice 0 (.int .u8) [] 0 n⟩, ⟨.ref .slice, .slice 1 (.int .u8) [] 0 m⟩] [⟨true, false, .int .u8, a⟩, ⟨true, false, .int .u8, o⟩] (out22 x n m a o) := by kernel_rfl

end Go.SL.A

/- AmendReach's condition. -/
namespace Go.SL.A
open Go Go.SL Go.SL.S
set_option maxRecDepth 100000

theorem hw22 {x : Int} {n m : Nat} {a o : List Int} (hw : Go.SL.allP (List.flatMap (fun a : AV => a.t.wf a.x) [⟨.int .u64, x⟩, ⟨.ref .slice, .slice 0 (.int .u8) [] 0 n⟩, ⟨.ref .slice, .slice 1 (.int .u8) [] 0 m⟩] ++ List.flatMap Blk.wf [⟨true, false, .int .u8, a⟩, ⟨true, false, .int .u8, o⟩])) : 0 ≤ x ∧ x ≤ 18446744073709551615 := by
  simp only [List.flatMap_cons, List.flatMap_nil, Ty.wf, Blk.wf, List.append_nil, List.cons_append, List.nil_append, Go.SL.allP] at hw
  exact ⟨hw.1, hw.2.1⟩

theorem pure22 (x : Int) (n m : Nat) (a o : List Int) (hp : n = a.length ∧ m = o.length) (hx : 0 ≤ x ∧ x ≤ 18446744073709551615) : P22 x n m a o := by
  obtain ⟨h1, h2⟩ := hp
  unfold P22
  simp only [eq_self, true_and, and_true, Int.toNat_natCast, Nat.zero_add]
  rintro _ rfl b1 hb1
  rw [cond_false] at hb1
  refine ⟨by cases b1 <;> simp, ?_⟩
  cases hc : (bif b1 then true else decide (40 < (m : Int))) with
  | true => rw [cond_true]; trivial
  | false =>
    rw [cond_false]
    have hn : ¬ (40 : Int) < n ∧ ¬ (40 : Int) < m := by
      cases b1 with
      | true => cases hc
      | false => exact ⟨of_decide_eq_false hb1, of_decide_eq_false hc⟩
    refine ⟨⟨h1, by omega⟩, ⟨h2, by omega⟩, ?_⟩
    generalize spoilF (encF x) a = w
    generalize holesF o = h
    by_cases hf : far6 w h (encF x) ≤ 20
    · obtain ⟨e1, e2⟩ := am_enc hx hf
      rw [decide_eq_true hf, cond_true, e1, e2]
      rintro _ rfl
      simp
    · rw [decide_eq_false hf, cond_false]
      by_cases he : amE w h = 0
      · obtain ⟨_, _, hfar⟩ := am_ok he
        have hne : amI w h ≠ x := fun e => hf (by rw [e] at hfar; exact hfar)
        rw [decide_eq_true he, Bool.not_true, cond_false, decide_eq_false hne, Bool.not_false, cond_true, decide_eq_true hfar]
      · obtain ⟨e1, e2⟩ := am_bad he
        rw [decide_eq_false he, Bool.not_false, cond_true, e1, e2]
        rintro _ rfl
        simp
end Go.SL.A

/- Functions do what they are held to do. -/
namespace Go.SL.A
open Go Go.SL Go.SL.S
theorem snd22 : Sound Go.Proofs.Try.prog G22 := snd67.add ⟨_, Go.Proofs.Try.func22, by kernel_rfl, by kernel_rfl⟩ (by
  intro args ins out h hp
  unfold sp22 at h
  split at h
  · rename_i x n m a o
    cases h
    exact vcFun_ok (C := C22) good snd67 Meth.none mix Go.Proofs.Try.func22 (ann22 x n m a o) (fun hw => by rw [← vc22 x n m a o]; exact pure22 x n m a o hp (hw22 hw))
  · cases h)

end Go.SL.A

/- AmendReach: the law returns true, whatever its arguments; each argument reads afterwards as before. No condition. -/
namespace Go.Proofs.Ythhfccnhkadkcaa
open Go Go.SL Go.SL.S Go.ChangeShapes Go.WideShapes Go.ChangeAt Go.WideMaps Go.WideElems Go.RowKit
set_option maxRecDepth 100000

theorem parsT : ((Go.Proofs.Try.f22.params.toList).all fun t => Nat.blt t Go.Proofs.Try.prog.types.size) = true := by kernel_rfl
theorem parsL : Go.Proofs.Try.f22.params.toList = [86, 87, 87] := by kernel_rfl
theorem law_pure : ∀ avs bls, argsOk Go.SL.A.D Go.Proofs.Try.f22.params.toList 0 avs bls → VCall Go.Proofs.Try.prog 22 avs bls ⟨[], .v .bool true, [], []⟩ := by
  rw [parsL]
  intro avs bls h
  replace h : ∃ (t : Ty) (x : t.I) (avs' : List AV), Go.SL.A.D.ty 86 = some t ∧ avs = ⟨t, x⟩ :: avs' ∧ argsOk Go.SL.A.D [87, 87] 0 avs' bls := h
  obtain ⟨t, x0, avs, ht, rfl, h⟩ := h
  obtain rfl : .int .u64 = t := Option.some.inj ((show (some (.int .u64) : Option Ty) = Go.SL.A.D.ty 86 by kernel_rfl).trans ht)
  replace h : ∃ (t : Ty) (xs : List t.I) (avs' : List AV) (bls' : List Blk), Go.SL.A.D.ty 5 = some t ∧ avs = ⟨.ref .slice, .slice 0 t [] 0 xs.length⟩ :: avs' ∧ bls = ⟨true, false, t, xs⟩ :: bls' ∧ argsOk Go.SL.A.D [87] 1 avs' bls' := h
  obtain ⟨t, x1, avs, bls, ht, rfl, rfl, h⟩ := h
  obtain rfl : .int .u8 = t := Option.some.inj ((show (some (.int .u8) : Option Ty) = Go.SL.A.D.ty 5 by kernel_rfl).trans ht)
  replace h : ∃ (t : Ty) (xs : List t.I) (avs' : List AV) (bls' : List Blk), Go.SL.A.D.ty 5 = some t ∧ avs = ⟨.ref .slice, .slice 1 t [] 0 xs.length⟩ :: avs' ∧ bls = ⟨true, false, t, xs⟩ :: bls' ∧ argsOk Go.SL.A.D [] 2 avs' bls' := h
  obtain ⟨t, x2, avs, bls, ht, rfl, rfl, h⟩ := h
  obtain rfl : .int .u8 = t := Option.some.inj ((show (some (.int .u8) : Option Ty) = Go.SL.A.D.ty 5 by kernel_rfl).trans ht)
  obtain ⟨rfl, rfl⟩ : avs = [] ∧ bls = [] := h
  have q := (Go.SL.A.snd22 22 Go.SL.A.sp22 rfl).2 [⟨.int .u64, x0⟩, ⟨.ref .slice, .slice 0 (.int .u8) [] 0 x1.length⟩, ⟨.ref .slice, .slice 1 (.int .u8) [] 0 x2.length⟩] [⟨true, false, .int .u8, x1⟩, ⟨true, false, .int .u8, x2⟩] _ rfl (⟨rfl, rfl⟩)
  exact q

theorem lifted (os : Os) (started : os.Started) (H : Type) (enc : TypeId × Value → H) :
    ReturnsInHanded {} Go.Proofs.Try.checked os 22 .any (Rows.amendReachSpec.pre6 enc Go.Proofs.Try.prog Go.Proofs.Try.f22 Rows.amendReachRow.domain false) (Rows.amendReachSpec.post enc Go.Proofs.Try.prog Go.Proofs.Try.f22 false true false false) := by
  refine returnsInHanded_of_change (C := Go.Proofs.Try.checked) Seat.own started (by kernel_rfl) Go.Proofs.Try.func22
    (ChangeSpec.witness6 (enc := enc) (C := Go.Proofs.Try.checked) false ⟨#[], #[.int .u64 0, .slice none 0 0, .slice none 0 0], []⟩ 8 (by kernel_rfl) (by kernel_rfl) (by kernel_rfl) (by kernel_rfl)) ?_
  intro W base args ds gs before hval hW _ _
  refine law_calls (D := Go.SL.A.D) Go.SL.A.good Seat.kids Seat.slicesFull (fun t ht => Nat.le_of_ble_eq_true (List.all_eq_true.1 parsT t ht)) (by kernel_rfl) (show Go.Proofs.Try.f22.resultTypes = #[4] by kernel_rfl) Go.Proofs.Try.underlying4 rfl (fun ds h => ?_) law_pure (fun _ _ h => by cases (show none = some _ from h)) hval hW
  have h : ds.length = 3 := h
  match ds, h with
  | [_, _, _], _ => rfl

theorem joined : joinedFacts Go.Proofs.Try.prog 22 Go.Proofs.Try.f22 Rows.amendReachSpec Rows.amendReachRow = true := by
  unfold joinedFacts
  exact (andT (andT (andT (andT (andT (andT (andT (andT (andT (andT (andT (andT (andT (andT (andT (andT (andT (andT (andT (andT (andT (andT (andT (andT (andT (andT (andT (andT (andT (andT (andT (by as_aux_lemma => kernel_rfl) Seat.laidOut) Seat.mapsRowed) (by as_aux_lemma => kernel_rfl)) (by as_aux_lemma => kernel_rfl)) (by as_aux_lemma => kernel_rfl)) Seat.stops) (by as_aux_lemma => kernel_rfl)) Seat.knobs) (by as_aux_lemma => kernel_rfl)) (by as_aux_lemma => kernel_rfl)) (by as_aux_lemma => kernel_rfl)) (by as_aux_lemma => kernel_rfl)) (by as_aux_lemma => kernel_rfl)) (by as_aux_lemma => kernel_rfl)) (by as_aux_lemma => kernel_rfl)) (by as_aux_lemma => kernel_rfl)) (by as_aux_lemma => kernel_rfl)) (by as_aux_lemma => kernel_rfl)) (by as_aux_lemma => kernel_rfl)) (by as_aux_lemma => kernel_rfl)) (by as_aux_lemma => kernel_rfl)) (by as_aux_lemma => kernel_rfl)) (by as_aux_lemma => kernel_rfl)) Seat.heard) Seat.mayEnter) (by rw [Seat.lifts]; rfl)) (by rw [Seat.made]; rfl)) (by as_aux_lemma => kernel_rfl)) (by as_aux_lemma => kernel_rfl)) (by as_aux_lemma => kernel_rfl)) (by as_aux_lemma => kernel_rfl))

theorem amendReach_holds : Rows.AmendReachSaid :=
  OpenClaim.holds_of_wide 22 Go.Proofs.Try.f22 rfl rfl rfl rfl rfl rfl rfl ⟨rfl, rfl, rfl, rfl, rfl⟩ rfl rfl rfl rfl rfl (by kernel_rfl) Go.Proofs.Try.func22 joined
    (of_decide_eq_true (by kernel_rfl)) (by unfold Func.isWrapper; first | (rw [if_pos (by decide +kernel)]; kernel_rfl) | (rw [if_neg (by decide +kernel)]; exact ⟨rfl, rfl⟩))
    (fun os started H enc _ => lifted os started H enc)

#print axioms amendReach_holds
end Go.Proofs.Ythhfccnhkadkcaa
