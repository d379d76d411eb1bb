/- CodeLoud returns true, whatever its arguments, which read afterwards as before: no condition. -/
import Derived.Test.YthhfccnhkadkcaaRows
import Derived.Test.YthhfccnhkadkcaaCode
import Derived.Test.YthhfccnhkadkcaaKb
import Derived.Test.YthhfccnhkadkcaaT

/- Functions and what they are held to do: bound to their code. -/
namespace Go.SL.A
open Go Go.SL Go.SL.S
set_option maxRecDepth 100000
noncomputable def C28 : Ctx := ⟨Go.Proofs.Try.prog, D, G64, meth18, fun _ => []⟩
def ann28 (f : List Int) (z : Int) : Nat → St → Option Ann := fun _ _ => some ⟨Nat, [5, 6, 7], [1, 2], fun i => [(9, .v (.int .i64) (i : Int)), (8, .v .bool (silTo (shapeV f (12 + z.tmod 13)).1 i))], fun _ => [], fun i => i ≤ 32, fun i => 32 - i⟩
def out28 (_f : List Int) (_z : Int) : COut := ⟨[], .v .bool true, [], []⟩
def sp28 : Spec := fun args ins => match args, ins with
  | [⟨.arr 32 (.int .i64), f⟩, ⟨.int .u8, z⟩], [] => some (out28 f z)
  | _, _ => none
def G28 := addG G64 28 sp28
def P28 (f : List Int) (z : Int) : Prop :=
  (13 : Int) ≠ (0 : Int) ∧ ∃ (x : Nat), (((0 : Nat) = (0 : Nat) ∧ shapeE (IntKind.wrap IntKind.i64 ((12 : Int) + Int.tmod (IntKind.wrap IntKind.i64 z) (13 : Int))) = shapeE (IntKind.wrap IntKind.i64 ((12 : Int) + Int.tmod
  (IntKind.wrap IntKind.i64 z) (13 : Int))) ∧ (0 : Nat) = (0 : Nat) ∧ true = silTo (Prod.fst (shapeV f ((12 : Int) + Int.tmod z (13 : Int)))) x ∧ (0 : Int) = (↑x : Int) ∧ Prod.fst (shapeV f (IntKind.wrap IntKind.i64 ((12 :
  Int) + Int.tmod (IntKind.wrap IntKind.i64 z) (13 : Int)))) = Prod.fst (shapeV f (IntKind.wrap IntKind.i64 ((12 : Int) + Int.tmod (IntKind.wrap IntKind.i64 z) (13 : Int)))) ∧ Prod.snd (shapeV f (IntKind.wrap IntKind.i64
  ((12 : Int) + Int.tmod (IntKind.wrap IntKind.i64 z) (13 : Int)))) = Prod.snd (shapeV f (IntKind.wrap IntKind.i64 ((12 : Int) + Int.tmod (IntKind.wrap IntKind.i64 z) (13 : Int)))) ∧ false = false ∧ coefsF (Prod.fst (shapeV
  f (IntKind.wrap IntKind.i64 ((12 : Int) + Int.tmod (IntKind.wrap IntKind.i64 z) (13 : Int)))), Prod.snd (shapeV f (IntKind.wrap IntKind.i64 ((12 : Int) + Int.tmod (IntKind.wrap IntKind.i64 z) (13 : Int))))) = coefsF
  (Prod.fst (shapeV f (IntKind.wrap IntKind.i64 ((12 : Int) + Int.tmod (IntKind.wrap IntKind.i64 z) (13 : Int)))), Prod.snd (shapeV f (IntKind.wrap IntKind.i64 ((12 : Int) + Int.tmod (IntKind.wrap IntKind.i64 z) (13 :
  Int))))) ∧ false = false) ∧ x ≤ (32 : Nat)) ∧ ∀ (x : Nat), x ≤ (32 : Nat) → IntKind.min IntKind.i64 ≤ (↑x : Int) ∧ (↑x : Int) ≤ IntKind.max IntKind.i64 → bif decide ((↑x : Int) < (32 : Int)) then ((4 : Int) ≠ (0 : Int) ∧
  ((0 : Int) ≤ IntKind.wrap IntKind.i64 (Int.tdiv (↑x : Int) (4 : Int)) ∧ IntKind.wrap IntKind.i64 (Int.tdiv (↑x : Int) (4 : Int)) < (↑(8 : Nat) : Int)) ∧ Int.toNat (IntKind.wrap IntKind.i64 (Int.tdiv (↑x : Int) (4 : Int)))
  < (8 : Nat) ∧ (0 : Int) ≤ iand IntKind.i64 (List.getD (Prod.fst (shapeV f (IntKind.wrap IntKind.i64 ((12 : Int) + Int.tmod (IntKind.wrap IntKind.i64 z) (13 : Int))))) (Int.toNat (IntKind.wrap IntKind.i64 (Int.tdiv (↑x :
  Int) (4 : Int)))) (0 : Int)) (15 : Int)) ∧ ∀ (b : Bool), decide (ishl IntKind.i64 (12 : Int) (iand IntKind.i64 (List.getD (Prod.fst (shapeV f (IntKind.wrap IntKind.i64 ((12 : Int) + Int.tmod (IntKind.wrap IntKind.i64 z)
  (13 : Int))))) (Int.toNat (IntKind.wrap IntKind.i64 (Int.tdiv (↑x : Int) (4 : Int)))) (0 : Int)) (15 : Int)) < List.getD (coefsF (Prod.fst (shapeV f (IntKind.wrap IntKind.i64 ((12 : Int) + Int.tmod (IntKind.wrap
  IntKind.i64 z) (13 : Int)))), Prod.snd (shapeV f (IntKind.wrap IntKind.i64 ((12 : Int) + Int.tmod (IntKind.wrap IntKind.i64 z) (13 : Int)))))) (Int.toNat (↑x : Int)) (0 : Int)) = b → (((0 : Int) ≤ (↑x : Int) ∧ (↑x : Int)
  < (↑(32 : Nat) : Int)) ∧ Int.toNat (↑x : Int) < (32 : Nat) ∧ ((!b) = true → (!b) = true ∧ (0 : Int) ≤ (↑x : Int) ∧ (↑x : Int) < (↑(32 : Nat) : Int)) ∧ ((!b) = true → (!b) = true ∧ Int.toNat (↑x : Int) < (32 : Nat)) ∧
  ((!b) = true → (!b) = true) ∧ ((!b) = true → (!b) = true ∧ (!b) = true) ∧ (b = false → (!b) = true)) ∧ bif bif b then true else decide (List.getD (coefsF (Prod.fst (shapeV f (IntKind.wrap IntKind.i64 ((12 : Int) +
  Int.tmod (IntKind.wrap IntKind.i64 z) (13 : Int)))), Prod.snd (shapeV f (IntKind.wrap IntKind.i64 ((12 : Int) + Int.tmod (IntKind.wrap IntKind.i64 z) (13 : Int)))))) (Int.toNat (↑x : Int)) (0 : Int) < IntKind.wrap
  IntKind.i64 ((0 : Int) - ishl IntKind.i64 (12 : Int) (iand IntKind.i64 (List.getD (Prod.fst (shapeV f (IntKind.wrap IntKind.i64 ((12 : Int) + Int.tmod (IntKind.wrap IntKind.i64 z) (13 : Int))))) (Int.toNat (IntKind.wrap
  IntKind.i64 (Int.tdiv (↑x : Int) (4 : Int)))) (0 : Int)) (15 : Int)))) then false = true else ∀ (b : Bool), silTo (Prod.fst (shapeV f ((12 : Int) + Int.tmod z (13 : Int)))) x = b → ((b = true → b = true ∧ (4 : Int) ≠ (0 :
  Int)) ∧ (b = true → b = true ∧ b = true ∧ (0 : Int) ≤ IntKind.wrap IntKind.i64 (Int.tdiv (↑x : Int) (4 : Int)) ∧ IntKind.wrap IntKind.i64 (Int.tdiv (↑x : Int) (4 : Int)) < (↑(8 : Nat) : Int)) ∧ (b = true → b = true ∧
  Int.toNat (IntKind.wrap IntKind.i64 (Int.tdiv (↑x : Int) (4 : Int))) < (8 : Nat)) ∧ (b = true → b = true) ∧ (b = true → b = true)) ∧ ∃ (y : Nat), ((0 : Nat) = (0 : Nat) ∧ shapeE (IntKind.wrap IntKind.i64 ((12 : Int) +
  Int.tmod (IntKind.wrap IntKind.i64 z) (13 : Int))) = shapeE (IntKind.wrap IntKind.i64 ((12 : Int) + Int.tmod (IntKind.wrap IntKind.i64 z) (13 : Int))) ∧ (0 : Nat) = (0 : Nat) ∧ (bif b then decide (List.getD (Prod.fst
  (shapeV f (IntKind.wrap IntKind.i64 ((12 : Int) + Int.tmod (IntKind.wrap IntKind.i64 z) (13 : Int))))) (Int.toNat (IntKind.wrap IntKind.i64 (Int.tdiv (↑x : Int) (4 : Int)))) (0 : Int) = (0 : Int)) else false) = silTo
  (Prod.fst (shapeV f ((12 : Int) + Int.tmod z (13 : Int)))) y ∧ IntKind.wrap IntKind.i64 ((↑x : Int) + (1 : Int)) = (↑y : Int) ∧ Prod.fst (shapeV f (IntKind.wrap IntKind.i64 ((12 : Int) + Int.tmod (IntKind.wrap IntKind.i64
  z) (13 : Int)))) = Prod.fst (shapeV f (IntKind.wrap IntKind.i64 ((12 : Int) + Int.tmod (IntKind.wrap IntKind.i64 z) (13 : Int)))) ∧ Prod.snd (shapeV f (IntKind.wrap IntKind.i64 ((12 : Int) + Int.tmod (IntKind.wrap
  IntKind.i64 z) (13 : Int)))) = Prod.snd (shapeV f (IntKind.wrap IntKind.i64 ((12 : Int) + Int.tmod (IntKind.wrap IntKind.i64 z) (13 : Int)))) ∧ false = false ∧ coefsF (Prod.fst (shapeV f (IntKind.wrap IntKind.i64 ((12 :
  Int) + Int.tmod (IntKind.wrap IntKind.i64 z) (13 : Int)))), Prod.snd (shapeV f (IntKind.wrap IntKind.i64 ((12 : Int) + Int.tmod (IntKind.wrap IntKind.i64 z) (13 : Int))))) = coefsF (Prod.fst (shapeV f (IntKind.wrap
  IntKind.i64 ((12 : Int) + Int.tmod (IntKind.wrap IntKind.i64 z) (13 : Int)))), Prod.snd (shapeV f (IntKind.wrap IntKind.i64 ((12 : Int) + Int.tmod (IntKind.wrap IntKind.i64 z) (13 : Int))))) ∧ false = false) ∧ y ≤ (32 :
  Nat) ∧ (32 : Nat) - y < (32 : Nat) - x else bif decide (shapeE (IntKind.wrap IntKind.i64 ((12 : Int) + Int.tmod (IntKind.wrap IntKind.i64 z) (13 : Int))) = (0 : Int)) then (silentF (Prod.fst (shapeV f (IntKind.wrap
  IntKind.i64 ((12 : Int) + Int.tmod (IntKind.wrap IntKind.i64 z) (13 : Int)))), Prod.snd (shapeV f (IntKind.wrap IntKind.i64 ((12 : Int) + Int.tmod (IntKind.wrap IntKind.i64 z) (13 : Int))))) == silTo (Prod.fst (shapeV f
  ((12 : Int) + Int.tmod z (13 : Int)))) x) = true else (false = true → false = true) ∧ false = true
theorem vc28 (f : List Int) (z : Int) : P28 f z = vcFun C28 (ann28 f z) Go.Proofs.Try.f28 [⟨.arr 32 (.int .i64), f⟩, ⟨.int .u8, z⟩] [] (out28 f z) := by kernel_rfl

end Go.SL.A

namespace Go.SL.A
open Go Go.SL Go.SL.S

theorem pure28 (f : List Int) (z : Int) (hw : f.length = 32 ∧ 0 ≤ z ∧ z ≤ 255) : P28 f z := by
  obtain ⟨hl, hz⟩ := hw
  unfold P28
  have d := tdm z (k := 13) (by decide)
  rw [w64 (n := z) (by omega) (by omega), w64 (n := 12 + z.tmod 13) (by omega) (by omega)]
  have hn : 12 ≤ 12 + z.tmod 13 ∧ 12 + z.tmod 13 ≤ 24 := by omega
  clear d
  generalize 12 + z.tmod 13 = n at *
  have h := shp f hn
  have hs := silent_sil h
  have hc := fun (i : Nat) (hi : i < 32) => coefs_loud h hi
  have hst := h.st
  have e3 : ((shapeV f n).1, (shapeV f n).2) = shapeV f n := rfl
  rw [h.ok, e3, hs]
  generalize coefsF (shapeV f n) = c at *
  generalize (shapeV f n).1 = S at *
  clear hs e3 h
  simp only [eq_self, true_and, and_true, Int.toNat_natCast, decide_true, cond_true]
  refine ⟨by decide, 0, ⟨⟨by rfl, rfl⟩, by omega⟩, fun i hi _ => ?_⟩
  by_cases h32 : (i : Int) < 32
  · simp only [h32, decide_true, cond_true]
    have e4 : (i : Int).tdiv 4 = ((i / 4 : Nat) : Int) := by
      have := tdm (i : Int) (k := 4) (by decide); omega
    rw [e4, w64 (n := ((i / 4 : Nat) : Int)) (by omega) (by omega), Int.toNat_natCast]
    have hci := hc i (by omega)
    have hsi := hst (i / 4)
    obtain ⟨s1, s2⟩ := shl12 hsi
    have hg := gain_fits (S.getD (i / 4) 0)
    have hsil : silTo S (i + 1) = bif silTo S i then decide (S.getD (i / 4) 0 = 0) else false := rfl
    generalize hS : S.getD (i / 4) 0 = s at *
    rw [s1, s2, w64 (n := 0 - 12 * gainF s) (by omega) (by omega)]
    have n1 : decide (12 * gainF s < c.getD i 0) = false := decide_eq_false (by omega)
    have n2 : decide (c.getD i 0 < 0 - 12 * gainF s) = false := decide_eq_false (by omega)
    refine ⟨⟨by decide, ⟨by omega, by omega⟩, by omega, by omega⟩, ?_⟩
    rw [n1, n2]
    rintro _ rfl
    simp only [cond_false]
    refine ⟨⟨⟨by omega, by omega⟩, by omega, fun _ => ⟨rfl, by omega, by omega⟩, fun _ => ⟨rfl, by omega⟩, fun h => h, fun h => ⟨h, h⟩, fun _ => rfl⟩, ?_⟩
    intro b hb
    refine ⟨⟨fun h => ⟨h, by decide⟩, fun h => ⟨h, h, by omega, by omega⟩, fun h => ⟨h, by omega⟩, fun h => h, fun h => h⟩, i + 1, ⟨?_, step_i (by omega)⟩, by omega, by omega⟩
    rw [hsil, hb]
  · have : i = 32 := by omega
    subst this
    simp only [h32, decide_false, cond_false]
    simp
end Go.SL.A

/- Functions do what they are held to do. -/
namespace Go.SL.A
open Go Go.SL Go.SL.S
theorem snd28 : Sound Go.Proofs.Try.prog G28 := snd64.add ⟨_, Go.Proofs.Try.func28, by kernel_rfl, by kernel_rfl⟩ (by
  intro args ins out h hp
  unfold sp28 at h
  split at h
  · rename_i f z
    cases h
    exact vcFun_ok (C := C28) good snd64 methOk18 mix Go.Proofs.Try.func28 (ann28 f z) (fun hw => by rw [← vc28 f z]; exact pure28 f z (hw21 hw))
  · cases h)

end Go.SL.A

/- CodeLoud: the law returns true, whatever its arguments; each argument reads afterwards as before. No condition. -/
namespace Go.Proofs.Ythhfccnhkadkcaa
open Go Go.SL Go.SL.S Go.ChangeShapes Go.WideShapes Go.ChangeAt Go.WideMaps Go.WideElems Go.RowKit
set_option maxRecDepth 100000

theorem parsT : ((Go.Proofs.Try.f28.params.toList).all fun t => Nat.blt t Go.Proofs.Try.prog.types.size) = true := by kernel_rfl
theorem parsL : Go.Proofs.Try.f28.params.toList = [27, 5] := by kernel_rfl
theorem law_pure : ∀ avs bls, argsOk Go.SL.A.D Go.Proofs.Try.f28.params.toList 0 avs bls → VCall Go.Proofs.Try.prog 28 avs bls ⟨[], .v .bool true, [], []⟩ := by
  rw [parsL]
  intro avs bls h
  replace h : ∃ (t : Ty) (x : t.I) (avs' : List AV), Go.SL.A.D.ty 27 = some t ∧ avs = ⟨t, x⟩ :: avs' ∧ argsOk Go.SL.A.D [5] 0 avs' bls := h
  obtain ⟨t, x0, avs, ht, rfl, h⟩ := h
  obtain rfl : .arr 32 (.int .i64) = t := Option.some.inj ((show (some (.arr 32 (.int .i64)) : Option Ty) = Go.SL.A.D.ty 27 by kernel_rfl).trans ht)
  replace h : ∃ (t : Ty) (x : t.I) (avs' : List AV), Go.SL.A.D.ty 5 = some t ∧ avs = ⟨t, x⟩ :: avs' ∧ argsOk Go.SL.A.D [] 0 avs' bls := h
  obtain ⟨t, x1, avs, ht, rfl, h⟩ := h
  obtain rfl : .int .u8 = t := Option.some.inj ((show (some (.int .u8) : Option Ty) = Go.SL.A.D.ty 5 by kernel_rfl).trans ht)
  obtain ⟨rfl, rfl⟩ : avs = [] ∧ bls = [] := h
  have q := (Go.SL.A.snd28 28 Go.SL.A.sp28 rfl).2 [⟨.arr 32 (.int .i64), x0⟩, ⟨.int .u8, x1⟩] [] _ rfl (trivial)
  exact q

theorem lifted (os : Os) (started : os.Started) (H : Type) (enc : TypeId × Value → H) :
    ReturnsInHanded {} Go.Proofs.Try.checked os 28 .any (Rows.codeLoudSpec.pre6 enc Go.Proofs.Try.prog Go.Proofs.Try.f28 Rows.codeLoudRow.domain false) (Rows.codeLoudSpec.post enc Go.Proofs.Try.prog Go.Proofs.Try.f28 false true false false) := by
  refine returnsInHanded_of_change (C := Go.Proofs.Try.checked) Seat.own started (by kernel_rfl) Go.Proofs.Try.func28
    (ChangeSpec.witness6 (enc := enc) (C := Go.Proofs.Try.checked) false ⟨#[], #[.agg (Array.replicate 32 (.int .i64 0)), .int .u8 0], []⟩ 8 (by kernel_rfl) (by kernel_rfl) (by kernel_rfl) (by kernel_rfl)) ?_
  intro W base args ds gs before hval hW _ _
  refine law_calls (D := Go.SL.A.D) Go.SL.A.good Seat.kids Seat.slicesFull (fun t ht => Nat.le_of_ble_eq_true (List.all_eq_true.1 parsT t ht)) (by kernel_rfl) (show Go.Proofs.Try.f28.resultTypes = #[4] by kernel_rfl) Go.Proofs.Try.underlying4 rfl (fun ds h => ?_) law_pure (fun _ _ h => by cases (show none = some _ from h)) hval hW
  have h : ds.length = 2 := h
  match ds, h with
  | [_, _], _ => rfl

theorem joined : joinedFacts Go.Proofs.Try.prog 28 Go.Proofs.Try.f28 Rows.codeLoudSpec Rows.codeLoudRow = true := by
  unfold joinedFacts
  exact (andT (andT (andT (andT (andT (andT (andT (andT (andT (andT (andT (andT (andT (andT (andT (andT (andT (andT (andT (andT (andT (andT (andT (andT (andT (andT (andT (andT (andT (andT (andT (by as_aux_lemma => kernel_rfl) Seat.laidOut) Seat.mapsRowed) (by as_aux_lemma => kernel_rfl)) (by as_aux_lemma => kernel_rfl)) (by as_aux_lemma => kernel_rfl)) Seat.stops) (by as_aux_lemma => kernel_rfl)) Seat.knobs) (by as_aux_lemma => kernel_rfl)) (by as_aux_lemma => kernel_rfl)) (by as_aux_lemma => kernel_rfl)) (by as_aux_lemma => kernel_rfl)) (by as_aux_lemma => kernel_rfl)) (by as_aux_lemma => kernel_rfl)) (by as_aux_lemma => kernel_rfl)) (by as_aux_lemma => kernel_rfl)) (by as_aux_lemma => kernel_rfl)) (by as_aux_lemma => kernel_rfl)) (by as_aux_lemma => kernel_rfl)) (by as_aux_lemma => kernel_rfl)) (by as_aux_lemma => kernel_rfl)) (by as_aux_lemma => kernel_rfl)) (by as_aux_lemma => kernel_rfl)) Seat.heard) Seat.mayEnter) (by rw [Seat.lifts]; rfl)) (by rw [Seat.made]; rfl)) (by as_aux_lemma => kernel_rfl)) (by as_aux_lemma => kernel_rfl)) (by as_aux_lemma => kernel_rfl)) (by as_aux_lemma => kernel_rfl))

theorem codeLoud_holds : Rows.CodeLoudSaid :=
  OpenClaim.holds_of_wide 28 Go.Proofs.Try.f28 rfl rfl rfl rfl rfl rfl rfl ⟨rfl, rfl, rfl, rfl, rfl⟩ rfl rfl rfl rfl rfl (by kernel_rfl) Go.Proofs.Try.func28 joined
    (of_decide_eq_true (by kernel_rfl)) (by unfold Func.isWrapper; first | (rw [if_pos (by decide +kernel)]; kernel_rfl) | (rw [if_neg (by decide +kernel)]; exact ⟨rfl, rfl⟩))
    (fun os started H enc _ => lifted os started H enc)

#print axioms codeLoud_holds
end Go.Proofs.Ythhfccnhkadkcaa
