/- AmendFar returns true, whatever its arguments, which read afterwards as before: no condition. -/
import Derived.Test.YthhfccnhkadkcaaRows
import Derived.Test.YthhfccnhkadkcaaAmend
import Derived.Test.YthhfccnhkadkcaaKb
import Derived.Test.YthhfccnhkadkcaaT

/- Functions and what they are held to do: bound to their code. -/
namespace Go.SL.A
open Go Go.SL Go.SL.S
set_option maxRecDepth 100000
noncomputable def C26 : Ctx := ⟨Go.Proofs.Try.prog, D, G67, (fun _ _ => none), fun _ => []⟩
def ann26 (_x _y : Int) (_n _m : Nat) (_a _o : List Int) : Nat → St → Option Ann := fun _ _ => none
def out26 (_x _y : Int) (n m : Nat) (a o : List Int) : COut := ⟨[n = a.length ∧ m = o.length], .v .bool true, [], []⟩
def sp26 : Spec := fun args ins => match args, ins with
  | [⟨.int .u64, x⟩, ⟨.int .u64, y⟩, ⟨.ref .slice, .slice 0 (.int .u8) [] 0 n⟩, ⟨.ref .slice, .slice 1 (.int .u8) [] 0 m⟩], [⟨true, false, .int .u8, a⟩, ⟨true, false, .int .u8, o⟩] => some (out26 x y n m a o)
  | _, _ => none
def G26 := addG G67 26 sp26
def P26 (x y : Int) (n m : Nat) (a o : List Int) : Prop :=
  ∀ (b : Bool), false = b → ∀ (b_1 : Bool), (bif b then true else decide ((40 : Int) < (↑n : Int))) = b_1 → ∀ (b_2 : Bool), (bif b_1 then true else decide ((40 : Int) < (↑m : Int))) = b_2 → (((!b) = true → (!b) = true) ∧
  ((!b) = true → (!b) = true) ∧ (b = false → (!b) = true) ∧ ((!b_1) = true → (!b_1) = true) ∧ ((!b_1) = true → (!b_1) = true) ∧ (b_1 = false → (!b_1) = true) ∧ ((!b_2) = true → (!b_2) = true ∧ (!b_2) = true) ∧ (b_2 = false
  → (!b_2) = true)) ∧ bif bif b_2 then true else decide (x = y) then true = true ∧ a = a ∧ true = true ∧ o = o ∧ true = true else (n = List.length a ∧ n ≤ (1000000 : Nat)) ∧ (m = List.length o ∧ m ≤ (1000000 : Nat)) ∧ ∀ (b
  : Bool), nearB (spoilF (encF x) a) (holesF o) (encF x) = b → bif !bif b then nearB (spoilF (encF x) a) (holesF o) (encF y) else false then bif nearB (spoilF (encF x) a) (holesF o) (encF x) == decide (far6 (spoilF (encF x)
  a) (holesF o) (encF x) ≤ (20 : Int)) then (b = true → b = true) ∧ (nearB (spoilF (encF x) a) (holesF o) (encF y) == decide (far6 (spoilF (encF x) a) (holesF o) (encF y) ≤ (20 : Int))) = true ∧ a = a ∧ true = true ∧ o = o
  ∧ true = true else ((b = true → b = true) ∧ (false = true → false = true)) ∧ false = true ∧ a = a ∧ true = true ∧ o = o ∧ true = true else ((b = true → b = true) ∧ (false = true → false = true) ∧ (false = true → false =
  true)) ∧ false = true ∧ a = a ∧ true = true ∧ o = o ∧ true = true
theorem vc26 (x y : Int) (n m : Nat) (a o : List Int) : P26 x y n m a o = vcFun C26 (ann26 x y n m a o) Go.Proofs.Try.f26 [⟨.int .u64, x⟩, ⟨.int .u64, y⟩, ⟨.ref .slice, .slice 0 (.int .u8) [] 0 n⟩, ⟨.ref .slice, .slice 1 (.int .u8) [] 0 m⟩] [⟨true, false, .int .u8, a⟩, ⟨true, false, .int .u8, o⟩] (out26 x y n m a o) := by kernel_rfl

end Go.SL.A

/- AmendFar's condition. -/
namespace Go.SL.A
open Go Go.SL Go.SL.S
set_option maxRecDepth 100000

theorem hw26 {x y : Int} {n m : Nat} {a o : List Int} (hw : Go.SL.allP (List.flatMap (fun a : AV => a.t.wf a.x) [⟨.int .u64, x⟩, ⟨.int .u64, y⟩, ⟨.ref .slice, .slice 0 (.int .u8) [] 0 n⟩, ⟨.ref .slice, .slice 1 (.int .u8) [] 0 m⟩] ++ List.flatMap Blk.wf [⟨true, false, .int .u8, a⟩, ⟨true, false, .int .u8, o⟩])) : (0 ≤ x ∧ x ≤ 18446744073709551615) ∧ (0 ≤ y ∧ y ≤ 18446744073709551615) := by
  simp only [List.flatMap_cons, List.flatMap_nil, Ty.wf, Blk.wf, List.append_nil, List.cons_append, List.nil_append, Go.SL.allP] at hw
  exact ⟨⟨hw.1, hw.2.1⟩, ⟨hw.2.2.1, hw.2.2.2.1⟩⟩

theorem pure26 (x y : Int) (n m : Nat) (a o : List Int) (hp : n = a.length ∧ m = o.length) (hx : (0 ≤ x ∧ x ≤ 18446744073709551615) ∧ (0 ≤ y ∧ y ≤ 18446744073709551615)) : P26 x y n m a o := by
  obtain ⟨h1, h2⟩ := hp
  unfold P26
  simp only [eq_self, true_and, and_true, Int.toNat_natCast, Nat.zero_add]
  rintro _ rfl b1 hb1 b2 hb2
  rw [cond_false] at hb1
  refine ⟨by cases b1 <;> cases b2 <;> simp, ?_⟩
  cases hc : (bif b2 then true else decide (x = y)) with
  | true => rw [cond_true]; trivial
  | false =>
    rw [cond_false]
    have hn : ¬ (40 : Int) < n ∧ ¬ (40 : Int) < m ∧ x ≠ y := by
      cases b2 with
      | true => cases hc
      | false =>
        cases b1 with
        | true => cases hb2
        | false => exact ⟨of_decide_eq_false hb1, of_decide_eq_false hb2, of_decide_eq_false hc⟩
    refine ⟨⟨h1, by omega⟩, ⟨h2, by omega⟩, ?_⟩
    generalize spoilF (encF x) a = w
    generalize holesF o = h
    intro b hb
    have key : (bif b then nearB w h (encF y) else false) = false := by
      cases b with
      | false => rfl
      | true =>
        rw [cond_true]
        cases hy : nearB w h (encF y) with
        | false => rfl
        | true =>
          have e := near_uniq (enc_len x) (enc_len y) hb hy
          have e2 : infI (encF x) = infI (encF y) := by rw [e]
          rw [info_enc hx.1, info_enc hx.2] at e2
          exact absurd e2 hn.2.2
    rw [key, Bool.not_false, cond_true, near_enc w h x, near_enc w h y, beq_self_eq_true, cond_true, beq_self_eq_true]
    simp
end Go.SL.A

/- Functions do what they are held to do. -/
namespace Go.SL.A
open Go Go.SL Go.SL.S
theorem snd26 : Sound Go.Proofs.Try.prog G26 := snd67.add ⟨_, Go.Proofs.Try.func26, by kernel_rfl, by kernel_rfl⟩ (by
  intro args ins out h hp
  unfold sp26 at h
  split at h
  · rename_i x y n m a o
    cases h
    exact vcFun_ok (C := C26) good snd67 Meth.none mix Go.Proofs.Try.func26 (ann26 x y n m a o) (fun hw => by rw [← vc26 x y n m a o]; exact pure26 x y n m a o hp (hw26 hw))
  · cases h)

end Go.SL.A

/- AmendFar: the law returns true, whatever its arguments; each argument reads afterwards as before. No condition. -/
namespace Go.Proofs.Ythhfccnhkadkcaa
open Go Go.SL Go.SL.S Go.ChangeShapes Go.WideShapes Go.ChangeAt Go.WideMaps Go.WideElems Go.RowKit
set_option maxRecDepth 100000

theorem parsT : ((Go.Proofs.Try.f26.params.toList).all fun t => Nat.blt t Go.Proofs.Try.prog.types.size) = true := by kernel_rfl
theorem parsL : Go.Proofs.Try.f26.params.toList = [86, 86, 87, 87] := by kernel_rfl
theorem law_pure : ∀ avs bls, argsOk Go.SL.A.D Go.Proofs.Try.f26.params.toList 0 avs bls → VCall Go.Proofs.Try.prog 26 avs bls ⟨[], .v .bool true, [], []⟩ := by
  rw [parsL]
  intro avs bls h
  replace h : ∃ (t : Ty) (x : t.I) (avs' : List AV), Go.SL.A.D.ty 86 = some t ∧ avs = ⟨t, x⟩ :: avs' ∧ argsOk Go.SL.A.D [86, 87, 87] 0 avs' bls := h
  obtain ⟨t, x0, avs, ht, rfl, h⟩ := h
  obtain rfl : .int .u64 = t := Option.some.inj ((show (some (.int .u64) : Option Ty) = Go.SL.A.D.ty 86 by kernel_rfl).trans ht)
  replace h : ∃ (t : Ty) (x : t.I) (avs' : List AV), Go.SL.A.D.ty 86 = some t ∧ avs = ⟨t, x⟩ :: avs' ∧ argsOk Go.SL.A.D [87, 87] 0 avs' bls := h
  obtain ⟨t, x1, avs, ht, rfl, h⟩ := h
  obtain rfl : .int .u64 = t := Option.some.inj ((show (some (.int .u64) : Option Ty) = Go.SL.A.D.ty 86 by kernel_rfl).trans ht)
  replace h : ∃ (t : Ty) (xs : List t.I) (avs' : List AV) (bls' : List Blk), Go.SL.A.D.ty 5 = some t ∧ avs = ⟨.ref .slice, .slice 0 t [] 0 xs.length⟩ :: avs' ∧ bls = ⟨true, false, t, xs⟩ :: bls' ∧ argsOk Go.SL.A.D [87] 1 avs' bls' := h
  obtain ⟨t, x2, avs, bls, ht, rfl, rfl, h⟩ := h
  obtain rfl : .int .u8 = t := Option.some.inj ((show (some (.int .u8) : Option Ty) = Go.SL.A.D.ty 5 by kernel_rfl).trans ht)
  replace h : ∃ (t : Ty) (xs : List t.I) (avs' : List AV) (bls' : List Blk), Go.SL.A.D.ty 5 = some t ∧ avs = ⟨.ref .slice, .slice 1 t [] 0 xs.length⟩ :: avs' ∧ bls = ⟨true, false, t, xs⟩ :: bls' ∧ argsOk Go.SL.A.D [] 2 avs' bls' := h
  obtain ⟨t, x3, avs, bls, ht, rfl, rfl, h⟩ := h
  obtain rfl : .int .u8 = t := Option.some.inj ((show (some (.int .u8) : Option Ty) = Go.SL.A.D.ty 5 by kernel_rfl).trans ht)
  obtain ⟨rfl, rfl⟩ : avs = [] ∧ bls = [] := h
  have q := (Go.SL.A.snd26 26 Go.SL.A.sp26 rfl).2 [⟨.int .u64, x0⟩, ⟨.int .u64, x1⟩, ⟨.ref .slice, .slice 0 (.int .u8) [] 0 x2.length⟩, ⟨.ref .slice, .slice 1 (.int .u8) [] 0 x3.length⟩] [⟨true, false, .int .u8, x2⟩, ⟨true, false, .int .u8, x3⟩] _ rfl (⟨rfl, rfl⟩)
  exact q

theorem lifted (os : Os) (started : os.Started) (H : Type) (enc : TypeId × Value → H) :
    ReturnsInHanded {} Go.Proofs.Try.checked os 26 .any (Rows.amendFarSpec.pre6 enc Go.Proofs.Try.prog Go.Proofs.Try.f26 Rows.amendFarRow.domain false) (Rows.amendFarSpec.post enc Go.Proofs.Try.prog Go.Proofs.Try.f26 false true false false) := by
  refine returnsInHanded_of_change (C := Go.Proofs.Try.checked) Seat.own started (by kernel_rfl) Go.Proofs.Try.func26
    (ChangeSpec.witness6 (enc := enc) (C := Go.Proofs.Try.checked) false ⟨#[], #[.int .u64 0, .int .u64 0, .slice none 0 0, .slice none 0 0], []⟩ 8 (by kernel_rfl) (by kernel_rfl) (by kernel_rfl) (by kernel_rfl)) ?_
  intro W base args ds gs before hval hW _ _
  refine law_calls (D := Go.SL.A.D) Go.SL.A.good Seat.kids Seat.slicesFull (fun t ht => Nat.le_of_ble_eq_true (List.all_eq_true.1 parsT t ht)) (by kernel_rfl) (show Go.Proofs.Try.f26.resultTypes = #[4] by kernel_rfl) Go.Proofs.Try.underlying4 rfl (fun ds h => ?_) law_pure (fun _ _ h => by cases (show none = some _ from h)) hval hW
  have h : ds.length = 4 := h
  match ds, h with
  | [_, _, _, _], _ => rfl

theorem joined : joinedFacts Go.Proofs.Try.prog 26 Go.Proofs.Try.f26 Rows.amendFarSpec Rows.amendFarRow = true := by
  unfold joinedFacts
  exact (andT (andT (andT (andT (andT (andT (andT (andT (andT (andT (andT (andT (andT (andT (andT (andT (andT (andT (andT (andT (andT (andT (andT (andT (andT (andT (andT (andT (andT (andT (andT (by as_aux_lemma => kernel_rfl) Seat.laidOut) Seat.mapsRowed) (by as_aux_lemma => kernel_rfl)) (by as_aux_lemma => kernel_rfl)) (by as_aux_lemma => kernel_rfl)) Seat.stops) (by as_aux_lemma => kernel_rfl)) Seat.knobs) (by as_aux_lemma => kernel_rfl)) (by as_aux_lemma => kernel_rfl)) (by as_aux_lemma => kernel_rfl)) (by as_aux_lemma => kernel_rfl)) (by as_aux_lemma => kernel_rfl)) (by as_aux_lemma => kernel_rfl)) (by as_aux_lemma => kernel_rfl)) (by as_aux_lemma => kernel_rfl)) (by as_aux_lemma => kernel_rfl)) (by as_aux_lemma => kernel_rfl)) (by as_aux_lemma => kernel_rfl)) (by as_aux_lemma => kernel_rfl)) (by as_aux_lemma => kernel_rfl)) (by as_aux_lemma => kernel_rfl)) (by as_aux_lemma => kernel_rfl)) Seat.heard) Seat.mayEnter) (by rw [Seat.lifts]; rfl)) (by rw [Seat.made]; rfl)) (by as_aux_lemma => kernel_rfl)) (by as_aux_lemma => kernel_rfl)) (by as_aux_lemma => kernel_rfl)) (by as_aux_lemma => kernel_rfl))

theorem amendFar_holds : Rows.AmendFarSaid :=
  OpenClaim.holds_of_wide 26 Go.Proofs.Try.f26 rfl rfl rfl rfl rfl rfl rfl ⟨rfl, rfl, rfl, rfl, rfl⟩ rfl rfl rfl rfl rfl (by kernel_rfl) Go.Proofs.Try.func26 joined
    (of_decide_eq_true (by kernel_rfl)) (by unfold Func.isWrapper; first | (rw [if_pos (by decide +kernel)]; kernel_rfl) | (rw [if_neg (by decide +kernel)]; exact ⟨rfl, rfl⟩))
    (fun os started H enc _ => lifted os started H enc)

#print axioms amendFar_holds
end Go.Proofs.Ythhfccnhkadkcaa
