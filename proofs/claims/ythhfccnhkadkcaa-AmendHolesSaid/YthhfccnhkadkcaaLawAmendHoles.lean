/- AmendHoles returns true, whatever its arguments, which read afterwards as before: no condition. -/
import Derived.Test.YthhfccnhkadkcaaRows
import Derived.Test.YthhfccnhkadkcaaAmend
import Derived.Test.YthhfccnhkadkcaaKb
import Derived.Test.YthhfccnhkadkcaaT

/- Functions and what they are held to do: bound to their code. -/
namespace Go.SL.A
open Go Go.SL Go.SL.S
set_option maxRecDepth 100000
noncomputable def C24 : Ctx := ⟨Go.Proofs.Try.prog, D, G67, (fun _ _ => none), fun _ => []⟩
def ann24 (x : Int) (_n _m : Nat) (a o : List Int) (r : List Bool) : Nat → St → Option Ann := fun _ _ => some ⟨Nat, [7, 9, 10, 11], [0, 1, 2, 3, 4], fun i => [(12, .v (.int .i64) (i : Int))], fun i => [(5, some ⟨false, true, .arr 127 .bool, [(fillB (spoilF (encF x) a) (holesF o) r).take i ++ (spoilF (encF x) a).drop i]⟩)], fun i => i ≤ 127, fun i => 127 - i⟩
def out24 (_x : Int) (n m : Nat) (a o : List Int) (_r : List Bool) : COut := ⟨[n = a.length ∧ m = o.length], .v .bool true, [], []⟩
def sp24 : Spec := fun args ins => match args, ins with
  | [⟨.int .u64, x⟩, ⟨.ref .slice, .slice 0 (.int .u8) [] 0 n⟩, ⟨.ref .slice, .slice 1 (.int .u8) [] 0 m⟩, ⟨.arr 127 .bool, r⟩], [⟨true, false, .int .u8, a⟩, ⟨true, false, .int .u8, o⟩] => some (out24 x n m a o r)
  | _, _ => none
def G24 := addG G67 24 sp24
def P24 (x : Int) (n m : Nat) (a o : List Int) (r : List Bool) : Prop :=
  ∀ (b : Bool), false = b → ∀ (b_1 : Bool), (bif b then true else decide ((40 : Int) < (↑n : Int))) = b_1 → (((!b) = true → (!b) = true) ∧ ((!b) = true → (!b) = true) ∧ (b = false → (!b) = true) ∧ ((!b_1) = true → (!b_1) =
  true) ∧ ((!b_1) = true → (!b_1) = true) ∧ (b_1 = false → (!b_1) = true)) ∧ bif bif b_1 then true else decide ((40 : Int) < (↑m : Int)) then true = true ∧ a = a ∧ true = true ∧ o = o ∧ true = true else (n = List.length a ∧
  n ≤ (1000000 : Nat)) ∧ (m = List.length o ∧ m ≤ (1000000 : Nat)) ∧ ∃ (x_1 : Nat), (((0 : Nat) = (0 : Nat) ∧ (0 : Nat) = (0 : Nat) ∧ (0 : Nat) = (0 : Nat) ∧ (0 : Nat) = (0 : Nat) ∧ (0 : Int) = (↑x_1 : Int) ∧ a = a ∧ true =
  true ∧ o = o ∧ true = true ∧ r = r ∧ false = false ∧ spoilF (encF x) a = spoilF (encF x) a ∧ false = false ∧ holesF o = holesF o ∧ false = false ∧ spoilF (encF x) a = List.take x_1 (fillB (spoilF (encF x) a) (holesF o) r)
  ++ List.drop x_1 (spoilF (encF x) a) ∧ false = false) ∧ x_1 ≤ (127 : Nat)) ∧ ∀ (x_2 : Nat), x_2 ≤ (127 : Nat) → (IntKind.min IntKind.i64 ≤ (↑x_2 : Int) ∧ (↑x_2 : Int) ≤ IntKind.max IntKind.i64 ∧ ∀ (y : List Bool),
  List.Mem y [List.take x_2 (fillB (spoilF (encF x) a) (holesF o) r) ++ List.drop x_2 (spoilF (encF x) a)] → List.length y = (127 : Nat) ∧ ∀ (y_1 : Bool), List.Mem y_1 y → True) → bif decide ((↑x_2 : Int) < (127 : Int))
  then (((0 : Int) ≤ (↑x_2 : Int) ∧ (↑x_2 : Int) < (↑(127 : Nat) : Int)) ∧ Int.toNat (↑x_2 : Int) < (127 : Nat)) ∧ bif List.getD (holesF o) (Int.toNat (↑x_2 : Int)) false then (((0 : Int) ≤ (↑x_2 : Int) ∧ (↑x_2 : Int) <
  (↑(127 : Nat) : Int)) ∧ Int.toNat (↑x_2 : Int) < (127 : Nat) ∧ ((0 : Int) ≤ (↑x_2 : Int) ∧ (↑x_2 : Int) < (↑(127 : Nat) : Int)) ∧ Int.toNat (↑x_2 : Int) < (127 : Nat)) ∧ ∃ (y : Nat), ((0 : Nat) = (0 : Nat) ∧ (0 : Nat) =
  (0 : Nat) ∧ (0 : Nat) = (0 : Nat) ∧ (0 : Nat) = (0 : Nat) ∧ IntKind.wrap IntKind.i64 ((↑x_2 : Int) + (1 : Int)) = (↑y : Int) ∧ a = a ∧ true = true ∧ o = o ∧ true = true ∧ r = r ∧ false = false ∧ spoilF (encF x) a = spoilF
  (encF x) a ∧ false = false ∧ holesF o = holesF o ∧ false = false ∧ List.set (List.take x_2 (fillB (spoilF (encF x) a) (holesF o) r) ++ List.drop x_2 (spoilF (encF x) a)) (Int.toNat (↑x_2 : Int)) (List.getD r (Int.toNat
  (↑x_2 : Int)) false) = List.take y (fillB (spoilF (encF x) a) (holesF o) r) ++ List.drop y (spoilF (encF x) a) ∧ false = false) ∧ y ≤ (127 : Nat) ∧ (127 : Nat) - y < (127 : Nat) - x_2 else ∃ (y : Nat), ((0 : Nat) = (0 :
  Nat) ∧ (0 : Nat) = (0 : Nat) ∧ (0 : Nat) = (0 : Nat) ∧ (0 : Nat) = (0 : Nat) ∧ IntKind.wrap IntKind.i64 ((↑x_2 : Int) + (1 : Int)) = (↑y : Int) ∧ a = a ∧ true = true ∧ o = o ∧ true = true ∧ r = r ∧ false = false ∧ spoilF
  (encF x) a = spoilF (encF x) a ∧ false = false ∧ holesF o = holesF o ∧ false = false ∧ List.append (List.take x_2 (fillB (spoilF (encF x) a) (holesF o) r)) (List.drop x_2 (spoilF (encF x) a)) = List.take y (fillB (spoilF
  (encF x) a) (holesF o) r) ++ List.drop y (spoilF (encF x) a) ∧ false = false) ∧ y ≤ (127 : Nat) ∧ (127 : Nat) - y < (127 : Nat) - x_2 else ∀ (b : Bool), decide (amI (spoilF (encF x) a) (holesF o) = amI (List.take x_2
  (fillB (spoilF (encF x) a) (holesF o) r) ++ List.drop x_2 (spoilF (encF x) a)) (holesF o)) = b → ((b = true → b = true ∧ b = true) ∧ (b = true → b = true)) ∧ (bif b then decide (amE (spoilF (encF x) a) (holesF o) = amE
  (List.take x_2 (fillB (spoilF (encF x) a) (holesF o) r) ++ List.drop x_2 (spoilF (encF x) a)) (holesF o)) else false) = true ∧ a = a ∧ true = true ∧ o = o ∧ true = true
theorem vc24 (x : Int) (n m : Nat) (a o : List Int) (r : List Bool) : P24 x n m a o r = vcFun C24 (ann24 x n m a o r) Go.Proofs.Try.f24 [⟨.int .u64, x⟩, ⟨.ref .slice, .slice 0 (.int .u8) [] 0 n⟩, ⟨.ref .slice, .slice 1 (.int .u8) [] 0 m⟩, ⟨.arr 127 .bool, r⟩] [⟨true, false, .int .u8, a⟩, ⟨true, false, .int .u8, o⟩] (out24 x n m a o r) := by kernel_rfl

end Go.SL.A

/- AmendHoles' condition. -/
namespace Go.SL.A
open Go Go.SL Go.SL.S
set_option maxRecDepth 100000

theorem pure24 (x : Int) (n m : Nat) (a o : List Int) (r : List Bool) (hp : n = a.length ∧ m = o.length) : P24 x n m a o r := by
  obtain ⟨h1, h2⟩ := hp
  unfold P24
  simp only [eq_self, true_and, and_true, Int.toNat_natCast, Nat.zero_add]
  rintro _ rfl b1 hb1
  rw [cond_false] at hb1
  refine ⟨by cases b1 <;> simp, ?_⟩
  cases hc : (bif b1 then true else decide (40 < (m : Int))) with
  | true => rw [cond_true]; trivial
  | false =>
    rw [cond_false]
    have hn : ¬ (40 : Int) < n ∧ ¬ (40 : Int) < m := by
      cases b1 with
      | true => cases hc
      | false => exact ⟨of_decide_eq_false hb1, of_decide_eq_false hc⟩
    have wl : (spoilF (encF x) a).length = 127 := by rw [spoil_len]; exact enc_len x
    generalize spoilF (encF x) a = w at *
    generalize holesF o = h at *
    refine ⟨⟨h1, by omega⟩, ⟨h2, by omega⟩, 0, ⟨⟨rfl, rfl⟩, by omega⟩, fun i hi hw => ?_⟩
    clear hw
    by_cases hi2 : (i : Int) < 127
    · have hb : h.getD i false = bw h i := rfl
      have hr : r.getD i false = bw r i := rfl
      rw [decide_eq_true hi2, cond_true, hb, hr]
      refine ⟨⟨⟨by omega, by omega⟩, by omega⟩, ?_⟩
      cases hh : bw h i with
      | true =>
        rw [cond_true]
        exact ⟨⟨⟨by omega, by omega⟩, by omega, ⟨by omega, by omega⟩, by omega⟩, i + 1, ⟨step_i (by omega), fill_set wl (by omega) hh⟩, by omega, by omega⟩
      | false =>
        rw [cond_false]
        exact ⟨i + 1, ⟨step_i (by omega), fill_keep wl (by omega) hh⟩, by omega, by omega⟩
    · have : i = 127 := by omega
      subst this
      obtain ⟨e1, e2⟩ := am_same (w := w) (v := fillB w h r) (h := h) fun i hi hb => by rw [fillB_bw _ _ _ hi, hb]; rfl
      rw [decide_eq_false hi2, cond_false, fill_end wl, e1, e2]
      rintro _ rfl
      simp
end Go.SL.A

/- Functions do what they are held to do. -/
namespace Go.SL.A
open Go Go.SL Go.SL.S
theorem snd24 : Sound Go.Proofs.Try.prog G24 := snd67.add ⟨_, Go.Proofs.Try.func24, by kernel_rfl, by kernel_rfl⟩ (by
  intro args ins out h hp
  unfold sp24 at h
  split at h
  · rename_i x n m r a o
    cases h
    exact vcFun_ok (C := C24) good snd67 Meth.none mix Go.Proofs.Try.func24 (ann24 x n m a o r) (fun hw => by rw [← vc24 x n m a o r]; exact pure24 x n m a o r hp)
  · cases h)

end Go.SL.A

/- AmendHoles: the law returns true, whatever its arguments; each argument reads afterwards as before. No condition. -/
namespace Go.Proofs.Ythhfccnhkadkcaa
open Go Go.SL Go.SL.S Go.ChangeShapes Go.WideShapes Go.ChangeAt Go.WideMaps Go.WideElems Go.RowKit
set_option maxRecDepth 100000

theorem parsT : ((Go.Proofs.Try.f24.params.toList).all fun t => Nat.blt t Go.Proofs.Try.prog.types.size) = true := by kernel_rfl
theorem parsL : Go.Proofs.Try.f24.params.toList = [86, 87, 87, 88] := by kernel_rfl
theorem law_pure : ∀ avs bls, argsOk Go.SL.A.D Go.Proofs.Try.f24.params.toList 0 avs bls → VCall Go.Proofs.Try.prog 24 avs bls ⟨[], .v .bool true, [], []⟩ := by
  rw [parsL]
  intro avs bls h
  replace h : ∃ (t : Ty) (x : t.I) (avs' : List AV), Go.SL.A.D.ty 86 = some t ∧ avs = ⟨t, x⟩ :: avs' ∧ argsOk Go.SL.A.D [87, 87, 88] 0 avs' bls := h
  obtain ⟨t, x0, avs, ht, rfl, h⟩ := h
  obtain rfl : .int .u64 = t := Option.some.inj ((show (some (.int .u64) : Option Ty) = Go.SL.A.D.ty 86 by kernel_rfl).trans ht)
  replace h : ∃ (t : Ty) (xs : List t.I) (avs' : List AV) (bls' : List Blk), Go.SL.A.D.ty 5 = some t ∧ avs = ⟨.ref .slice, .slice 0 t [] 0 xs.length⟩ :: avs' ∧ bls = ⟨true, false, t, xs⟩ :: bls' ∧ argsOk Go.SL.A.D [87, 88] 1 avs' bls' := h
  obtain ⟨t, x1, avs, bls, ht, rfl, rfl, h⟩ := h
  obtain rfl : .int .u8 = t := Option.some.inj ((show (some (.int .u8) : Option Ty) = Go.SL.A.D.ty 5 by kernel_rfl).trans ht)
  replace h : ∃ (t : Ty) (xs : List t.I) (avs' : List AV) (bls' : List Blk), Go.SL.A.D.ty 5 = some t ∧ avs = ⟨.ref .slice, .slice 1 t [] 0 xs.length⟩ :: avs' ∧ bls = ⟨true, false, t, xs⟩ :: bls' ∧ argsOk Go.SL.A.D [88] 2 avs' bls' := h
  obtain ⟨t, x2, avs, bls, ht, rfl, rfl, h⟩ := h
  obtain rfl : .int .u8 = t := Option.some.inj ((show (some (.int .u8) : Option Ty) = Go.SL.A.D.ty 5 by kernel_rfl).trans ht)
  replace h : ∃ (t : Ty) (x : t.I) (avs' : List AV), Go.SL.A.D.ty 88 = some t ∧ avs = ⟨t, x⟩ :: avs' ∧ argsOk Go.SL.A.D [] 2 avs' bls := h
  obtain ⟨t, x3, avs, ht, rfl, h⟩ := h
  obtain rfl : .arr 127 .bool = t := Option.some.inj ((show (some (.arr 127 .bool) : Option Ty) = Go.SL.A.D.ty 88 by kernel_rfl).trans ht)
  obtain ⟨rfl, rfl⟩ : avs = [] ∧ bls = [] := h
  have q := (Go.SL.A.snd24 24 Go.SL.A.sp24 rfl).2 [⟨.int .u64, x0⟩, ⟨.ref .slice, .slice 0 (.int .u8) [] 0 x1.length⟩, ⟨.ref .slice, .slice 1 (.int .u8) [] 0 x2.length⟩, ⟨.arr 127 .bool, x3⟩] [⟨true, false, .int .u8, x1⟩, ⟨true, false, .int .u8, x2⟩] _ rfl (⟨rfl, rfl⟩)
  exact q

theorem lifted (os : Os) (started : os.Started) (H : Type) (enc : TypeId × Value → H) :
    ReturnsInHanded {} Go.Proofs.Try.checked os 24 .any (Rows.amendHolesSpec.pre6 enc Go.Proofs.Try.prog Go.Proofs.Try.f24 Rows.amendHolesRow.domain false) (Rows.amendHolesSpec.post enc Go.Proofs.Try.prog Go.Proofs.Try.f24 false true false false) := by
  refine returnsInHanded_of_change (C := Go.Proofs.Try.checked) Seat.own started (by kernel_rfl) Go.Proofs.Try.func24
    (ChangeSpec.witness6 (enc := enc) (C := Go.Proofs.Try.checked) false ⟨#[], #[.int .u64 0, .slice none 0 0, .slice none 0 0, .agg (Array.replicate 127 (.bool false))], []⟩ 8 (by kernel_rfl) (by kernel_rfl) (by kernel_rfl) (by kernel_rfl)) ?_
  intro W base args ds gs before hval hW _ _
  refine law_calls (D := Go.SL.A.D) Go.SL.A.good Seat.kids Seat.slicesFull (fun t ht => Nat.le_of_ble_eq_true (List.all_eq_true.1 parsT t ht)) (by kernel_rfl) (show Go.Proofs.Try.f24.resultTypes = #[4] by kernel_rfl) Go.Proofs.Try.underlying4 rfl (fun ds h => ?_) law_pure (fun _ _ h => by cases (show none = some _ from h)) hval hW
  have h : ds.length = 4 := h
  match ds, h with
  | [_, _, _, _], _ => rfl

theorem joined : joinedFacts Go.Proofs.Try.prog 24 Go.Proofs.Try.f24 Rows.amendHolesSpec Rows.amendHolesRow = true := by
  unfold joinedFacts
  exact (andT (andT (andT (andT (andT (andT (andT (andT (andT (andT (andT (andT (andT (andT (andT (andT (andT (andT (andT (andT (andT (andT (andT (andT (andT (andT (andT (andT (andT (andT (andT (by as_aux_lemma => kernel_rfl) Seat.laidOut) Seat.mapsRowed) (by as_aux_lemma => kernel_rfl)) (by as_aux_lemma => kernel_rfl)) (by as_aux_lemma => kernel_rfl)) Seat.stops) (by as_aux_lemma => kernel_rfl)) Seat.knobs) (by as_aux_lemma => kernel_rfl)) (by as_aux_lemma => kernel_rfl)) (by as_aux_lemma => kernel_rfl)) (by as_aux_lemma => kernel_rfl)) (by as_aux_lemma => kernel_rfl)) (by as_aux_lemma => kernel_rfl)) (by as_aux_lemma => kernel_rfl)) (by as_aux_lemma => kernel_rfl)) (by as_aux_lemma => kernel_rfl)) (by as_aux_lemma => kernel_rfl)) (by as_aux_lemma => kernel_rfl)) (by as_aux_lemma => kernel_rfl)) (by as_aux_lemma => kernel_rfl)) (by as_aux_lemma => kernel_rfl)) (by as_aux_lemma => kernel_rfl)) Seat.heard) Seat.mayEnter) (by rw [Seat.lifts]; rfl)) (by rw [Seat.made]; rfl)) (by as_aux_lemma => kernel_rfl)) (by as_aux_lemma => kernel_rfl)) (by as_aux_lemma => kernel_rfl)) (by as_aux_lemma => kernel_rfl))

theorem amendHoles_holds : Rows.AmendHolesSaid :=
  OpenClaim.holds_of_wide 24 Go.Proofs.Try.f24 rfl rfl rfl rfl rfl rfl rfl ⟨rfl, rfl, rfl, rfl, rfl⟩ rfl rfl rfl rfl rfl (by kernel_rfl) Go.Proofs.Try.func24 joined
    (of_decide_eq_true (by kernel_rfl)) (by unfold Func.isWrapper; first | (rw [if_pos (by decide +kernel)]; kernel_rfl) | (rw [if_neg (by decide +kernel)]; exact ⟨rfl, rfl⟩))
    (fun os started H enc _ => lifted os started H enc)

#print axioms amendHoles_holds
end Go.Proofs.Ythhfccnhkadkcaa
