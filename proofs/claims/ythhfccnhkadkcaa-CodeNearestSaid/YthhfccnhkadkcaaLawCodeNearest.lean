/- CodeNearest returns true, whatever its arguments, which read afterwards as before: no condition. -/
import Derived.Test.YthhfccnhkadkcaaRows
import Derived.Test.YthhfccnhkadkcaaCode
import Derived.Test.YthhfccnhkadkcaaKb
import Derived.Test.YthhfccnhkadkcaaT

/- Functions and what they are held to do: bound to their code. -/
namespace Go.SL.A
open Go Go.SL Go.SL.S
set_option maxRecDepth 100000
noncomputable def C29 : Ctx := ⟨Go.Proofs.Try.prog, D, G64, meth18, fun _ => []⟩
def ann29 (f : List Int) (z : Int) (l : List Int) : Nat → St → Option Ann := fun _ _ => some ⟨Nat, [3, 5, 7, 9], [0, 1], fun b => [(10, .v (.int .i64) (b : Int))], fun b => [(2, some ⟨false, true, .cons (.arr 8 (.int .i64)) (.last (.arr 8 (.arr 4 (.int .i64)))), [((shapeV f (12 + z.tmod 13)).1, (nearY (shapeV f (12 + z.tmod 13)).2 l).take b ++ (shapeV f (12 + z.tmod 13)).2.drop b)]⟩)], fun b => b ≤ 8, fun b => 8 - b⟩
def out29 (_f : List Int) (_z : Int) (_l : List Int) : COut := ⟨[], .v .bool true, [], []⟩
def sp29 : Spec := fun args ins => match args, ins with
  | [⟨.arr 32 (.int .i64), f⟩, ⟨.int .u8, z⟩, ⟨.arr 8 (.int .u32), l⟩], [] => some (out29 f z l)
  | _, _ => none
def G29 := addG G64 29 sp29
def P29 (f : List Int) (z : Int) (l : List Int) : Prop :=
  (13 : Int) ≠ (0 : Int) ∧ bif !decide (shapeE (IntKind.wrap IntKind.i64 ((12 : Int) + Int.tmod (IntKind.wrap IntKind.i64 z) (13 : Int))) = (0 : Int)) then false = true else ∃ (x : Nat), (((0 : Nat) = (0 : Nat) ∧ (0 : Nat)
  = (0 : Nat) ∧ (0 : Nat) = (0 : Nat) ∧ errF f (Prod.fst (shapeV f (IntKind.wrap IntKind.i64 ((12 : Int) + Int.tmod (IntKind.wrap IntKind.i64 z) (13 : Int)))), Prod.snd (shapeV f (IntKind.wrap IntKind.i64 ((12 : Int) +
  Int.tmod (IntKind.wrap IntKind.i64 z) (13 : Int))))) = errF f (Prod.fst (shapeV f (IntKind.wrap IntKind.i64 ((12 : Int) + Int.tmod (IntKind.wrap IntKind.i64 z) (13 : Int)))), Prod.snd (shapeV f (IntKind.wrap IntKind.i64
  ((12 : Int) + Int.tmod (IntKind.wrap IntKind.i64 z) (13 : Int))))) ∧ (0 : Int) = (↑x : Int) ∧ f = f ∧ false = false ∧ l = l ∧ false = false ∧ Prod.fst (shapeV f (IntKind.wrap IntKind.i64 ((12 : Int) + Int.tmod
  (IntKind.wrap IntKind.i64 z) (13 : Int)))) = Prod.fst (shapeV f ((12 : Int) + Int.tmod z (13 : Int))) ∧ Prod.snd (shapeV f (IntKind.wrap IntKind.i64 ((12 : Int) + Int.tmod (IntKind.wrap IntKind.i64 z) (13 : Int)))) =
  List.take x (nearY (Prod.snd (shapeV f ((12 : Int) + Int.tmod z (13 : Int)))) l) ++ List.drop x (Prod.snd (shapeV f ((12 : Int) + Int.tmod z (13 : Int)))) ∧ false = false) ∧ x ≤ (8 : Nat)) ∧ ∀ (x : Nat), x ≤ (8 : Nat) →
  (IntKind.min IntKind.i64 ≤ (↑x : Int) ∧ (↑x : Int) ≤ IntKind.max IntKind.i64 ∧ ∀ (y : List Int × List (List Int)), List.Mem y [(Prod.fst (shapeV f ((12 : Int) + Int.tmod z (13 : Int))), List.take x (nearY (Prod.snd
  (shapeV f ((12 : Int) + Int.tmod z (13 : Int)))) l) ++ List.drop x (Prod.snd (shapeV f ((12 : Int) + Int.tmod z (13 : Int)))))] → List.length (Prod.fst y) = (8 : Nat) ∧ (∀ (y_1 : Int), List.Mem y_1 (Prod.fst y) →
  IntKind.min IntKind.i64 ≤ y_1 ∧ y_1 ≤ IntKind.max IntKind.i64) ∧ List.length (Prod.snd y) = (8 : Nat) ∧ ∀ (y_1 : List Int), List.Mem y_1 (Prod.snd y) → List.length y_1 = (4 : Nat) ∧ ∀ (y : Int), List.Mem y y_1 →
  IntKind.min IntKind.i64 ≤ y ∧ y ≤ IntKind.max IntKind.i64) → bif decide ((↑x : Int) < (8 : Int)) then (((0 : Int) ≤ (↑x : Int) ∧ (↑x : Int) < (↑(8 : Nat) : Int)) ∧ Int.toNat (↑x : Int) < (8 : Nat) ∧ (4 : Nat) ≤
  (9223372036854775807 : Nat) ∧ Int.toNat (↑x : Int) < (8 : Nat) ∧ (4 : Nat) = List.length (List.getD (List.take x (nearY (Prod.snd (shapeV f ((12 : Int) + Int.tmod z (13 : Int)))) l) ++ List.drop x (Prod.snd (shapeV f ((12
  : Int) + Int.tmod z (13 : Int))))) (Int.toNat (↑x : Int)) (List.replicate (4 : Nat) (0 : Int)))) ∧ bif decide (countF (4 : Int) (pulsesF (List.getD (List.take x (nearY (Prod.snd (shapeV f ((12 : Int) + Int.tmod z (13 :
  Int)))) l) ++ List.drop x (Prod.snd (shapeV f ((12 : Int) + Int.tmod z (13 : Int))))) (Int.toNat (↑x : Int)) (List.replicate (4 : Nat) (0 : Int)))) = (0 : Int)) then false = true else (((0 : Int) ≤ (↑x : Int) ∧ (↑x : Int)
  < (↑(8 : Nat) : Int)) ∧ Int.toNat (↑x : Int) < (8 : Nat) ∧ countF (4 : Int) (pulsesF (List.getD (List.take x (nearY (Prod.snd (shapeV f ((12 : Int) + Int.tmod z (13 : Int)))) l) ++ List.drop x (Prod.snd (shapeV f ((12 :
  Int) + Int.tmod z (13 : Int))))) (Int.toNat (↑x : Int)) (List.replicate (4 : Nat) (0 : Int)))) ≠ (0 : Int)) ∧ ∀ (b : Bool), (!decide (vecE (4 : Int) (pulsesF (List.getD (List.take x (nearY (Prod.snd (shapeV f ((12 : Int)
  + Int.tmod z (13 : Int)))) l) ++ List.drop x (Prod.snd (shapeV f ((12 : Int) + Int.tmod z (13 : Int))))) (Int.toNat (↑x : Int)) (List.replicate (4 : Nat) (0 : Int)))) (Int.tmod (IntKind.wrap IntKind.i64 (List.getD l
  (Int.toNat (↑x : Int)) (0 : Int))) (countF (4 : Int) (pulsesF (List.getD (List.take x (nearY (Prod.snd (shapeV f ((12 : Int) + Int.tmod z (13 : Int)))) l) ++ List.drop x (Prod.snd (shapeV f ((12 : Int) + Int.tmod z (13 :
  Int))))) (Int.toNat (↑x : Int)) (List.replicate (4 : Nat) (0 : Int)))))) = (0 : Int))) = b → (((!b) = true → (!b) = true) ∧ ((!b) = true → (!b) = true) ∧ (b = false → (!b) = true)) ∧ bif bif b then true else !decide
  ((↑(List.length (vecF (4 : Int) (pulsesF (List.getD (List.take x (nearY (Prod.snd (shapeV f ((12 : Int) + Int.tmod z (13 : Int)))) l) ++ List.drop x (Prod.snd (shapeV f ((12 : Int) + Int.tmod z (13 : Int))))) (Int.toNat
  (↑x : Int)) (List.replicate (4 : Nat) (0 : Int)))) (Int.tmod (IntKind.wrap IntKind.i64 (List.getD l (Int.toNat (↑x : Int)) (0 : Int))) (countF (4 : Int) (pulsesF (List.getD (List.take x (nearY (Prod.snd (shapeV f ((12 :
  Int) + Int.tmod z (13 : Int)))) l) ++ List.drop x (Prod.snd (shapeV f ((12 : Int) + Int.tmod z (13 : Int))))) (Int.toNat (↑x : Int)) (List.replicate (4 : Nat) (0 : Int)))))))) : Int) = (4 : Int)) then false = true else
  ((4 : Nat) ≤ List.length (vecF (4 : Int) (pulsesF (List.getD (List.take x (nearY (Prod.snd (shapeV f ((12 : Int) + Int.tmod z (13 : Int)))) l) ++ List.drop x (Prod.snd (shapeV f ((12 : Int) + Int.tmod z (13 : Int)))))
  (Int.toNat (↑x : Int)) (List.replicate (4 : Nat) (0 : Int)))) (Int.tmod (IntKind.wrap IntKind.i64 (List.getD l (Int.toNat (↑x : Int)) (0 : Int))) (countF (4 : Int) (pulsesF (List.getD (List.take x (nearY (Prod.snd (shapeV
  f ((12 : Int) + Int.tmod z (13 : Int)))) l) ++ List.drop x (Prod.snd (shapeV f ((12 : Int) + Int.tmod z (13 : Int))))) (Int.toNat (↑x : Int)) (List.replicate (4 : Nat) (0 : Int))))))) ∧ (4 : Nat) ≤ List.length (vecF (4 :
  Int) (pulsesF (List.getD (List.take x (nearY (Prod.snd (shapeV f ((12 : Int) + Int.tmod z (13 : Int)))) l) ++ List.drop x (Prod.snd (shapeV f ((12 : Int) + Int.tmod z (13 : Int))))) (Int.toNat (↑x : Int)) (List.replicate
  (4 : Nat) (0 : Int)))) (Int.tmod (IntKind.wrap IntKind.i64 (List.getD l (Int.toNat (↑x : Int)) (0 : Int))) (countF (4 : Int) (pulsesF (List.getD (List.take x (nearY (Prod.snd (shapeV f ((12 : Int) + Int.tmod z (13 :
  Int)))) l) ++ List.drop x (Prod.snd (shapeV f ((12 : Int) + Int.tmod z (13 : Int))))) (Int.toNat (↑x : Int)) (List.replicate (4 : Nat) (0 : Int))))))) ∧ ((0 : Int) ≤ (↑x : Int) ∧ (↑x : Int) < (↑(8 : Nat) : Int)) ∧
  Int.toNat (↑x : Int) < (8 : Nat)) ∧ ∃ (y : Nat), ((0 : Nat) = (0 : Nat) ∧ (0 : Nat) = (0 : Nat) ∧ (0 : Nat) = (0 : Nat) ∧ errF f (Prod.fst (shapeV f (IntKind.wrap IntKind.i64 ((12 : Int) + Int.tmod (IntKind.wrap
  IntKind.i64 z) (13 : Int)))), Prod.snd (shapeV f (IntKind.wrap IntKind.i64 ((12 : Int) + Int.tmod (IntKind.wrap IntKind.i64 z) (13 : Int))))) = errF f (Prod.fst (shapeV f (IntKind.wrap IntKind.i64 ((12 : Int) + Int.tmod
  (IntKind.wrap IntKind.i64 z) (13 : Int)))), Prod.snd (shapeV f (IntKind.wrap IntKind.i64 ((12 : Int) + Int.tmod (IntKind.wrap IntKind.i64 z) (13 : Int))))) ∧ IntKind.wrap IntKind.i64 ((↑x : Int) + (1 : Int)) = (↑y : Int)
  ∧ f = f ∧ false = false ∧ l = l ∧ false = false ∧ Prod.fst (shapeV f ((12 : Int) + Int.tmod z (13 : Int))) = Prod.fst (shapeV f ((12 : Int) + Int.tmod z (13 : Int))) ∧ List.set (List.take x (nearY (Prod.snd (shapeV f ((12
  : Int) + Int.tmod z (13 : Int)))) l) ++ List.drop x (Prod.snd (shapeV f ((12 : Int) + Int.tmod z (13 : Int))))) (Int.toNat (↑x : Int)) (seg (vecF (4 : Int) (pulsesF (List.getD (List.take x (nearY (Prod.snd (shapeV f ((12
  : Int) + Int.tmod z (13 : Int)))) l) ++ List.drop x (Prod.snd (shapeV f ((12 : Int) + Int.tmod z (13 : Int))))) (Int.toNat (↑x : Int)) (List.replicate (4 : Nat) (0 : Int)))) (Int.tmod (IntKind.wrap IntKind.i64 (List.getD
  l (Int.toNat (↑x : Int)) (0 : Int))) (countF (4 : Int) (pulsesF (List.getD (List.take x (nearY (Prod.snd (shapeV f ((12 : Int) + Int.tmod z (13 : Int)))) l) ++ List.drop x (Prod.snd (shapeV f ((12 : Int) + Int.tmod z (13
  : Int))))) (Int.toNat (↑x : Int)) (List.replicate (4 : Nat) (0 : Int))))))) (0 : Nat) (4 : Nat)) = List.take y (nearY (Prod.snd (shapeV f ((12 : Int) + Int.tmod z (13 : Int)))) l) ++ List.drop y (Prod.snd (shapeV f ((12 :
  Int) + Int.tmod z (13 : Int)))) ∧ false = false) ∧ y ≤ (8 : Nat) ∧ (8 : Nat) - y < (8 : Nat) - x else decide (errF f (Prod.fst (shapeV f (IntKind.wrap IntKind.i64 ((12 : Int) + Int.tmod (IntKind.wrap IntKind.i64 z) (13 :
  Int)))), Prod.snd (shapeV f (IntKind.wrap IntKind.i64 ((12 : Int) + Int.tmod (IntKind.wrap IntKind.i64 z) (13 : Int))))) ≤ errF f (Prod.fst (shapeV f ((12 : Int) + Int.tmod z (13 : Int))), List.take x (nearY (Prod.snd
  (shapeV f ((12 : Int) + Int.tmod z (13 : Int)))) l) ++ List.drop x (Prod.snd (shapeV f ((12 : Int) + Int.tmod z (13 : Int)))))) = true
theorem vc29 (f : List Int) (z : Int) (l : List Int) : P29 f z l = vcFun C29 (ann29 f z l) Go.Proofs.Try.f29 [⟨.arr 32 (.int .i64), f⟩, ⟨.int .u8, z⟩, ⟨.arr 8 (.int .u32), l⟩] [] (out29 f z l) := by kernel_rfl

end Go.SL.A

namespace Go.SL.A
open Go Go.SL Go.SL.S

theorem nearY_len (Y : List (List Int)) (l : List Int) : (nearY Y l).length = 8 := by simp [nearY]
theorem nearY_at (Y : List (List Int)) (l : List Int) {i : Nat} (h : i < 8) : (nearY Y l)[i]? = some (vecF 4 (pulsesF (Y.getD i z4)) ((l.getD i 0).tmod (countF 4 (pulsesF (Y.getD i z4))))) := by
  unfold nearY
  rw [List.getElem?_map, List.getElem?_range h]; rfl

theorem pure29 (f : List Int) (z : Int) (l : List Int) (hw : f.length = 32 ∧ (0 ≤ z ∧ z ≤ 255) ∧ l.length = 8 ∧ ∀ x ∈ l, 0 ≤ x ∧ x ≤ 4294967295) : P29 f z l := by
  obtain ⟨hl, hz, hll, hlx⟩ := hw
  unfold P29
  have d := tdm z (k := 13) (by decide)
  rw [w64 (n := z) (by omega) (by omega), w64 (n := 12 + z.tmod 13) (by omega) (by omega)]
  have hn : 12 ≤ 12 + z.tmod 13 ∧ 12 + z.tmod 13 ≤ 24 := by omega
  clear d
  generalize 12 + z.tmod 13 = n at *
  have h := shp f hn
  have hsw := h.sw
  have hst := h.st
  have hrow := h.row
  rw [h.ok]
  clear h
  generalize shapeV f n = q at *
  obtain ⟨S, Y⟩ := q
  obtain ⟨q1, q2, q4⟩ := hsw
  simp only at q1 q2 q4 hst hrow
  -- the vector drawn for each band
  have near : ∀ i : Nat, i < 8 → ∃ v : List Int, ∃ k e : Int, pulsesF (Y.getD i z4) = k ∧ (l.getD i 0).tmod (countF 4 k) = e ∧ vecF 4 k e = v ∧ (nearY Y l)[i]? = some v ∧ countF 4 k ≠ 0 ∧ vecE 4 k e = 0 ∧ v.length = 4 ∧ fewF v = true ∧ sumF v = k ∧ fewF (Y.getD i z4) = true ∧ farF (ofF (clampF f) i) (Y.getD i z4) (gainF (S.getD i 0)) ≤ farF (ofF (clampF f) i) v (gainF (S.getD i 0)) := by
    intro i hi
    obtain ⟨k, hk, F⟩ := hrow i hi
    have hp := F.pulses hk.2
    have hc : 0 < countF 4 k := by
      unfold countF; rw [if_pos (may_iff.2 (by omega))]
      have := cnt_pos 3 k.toNat
      exact Int.lt_of_lt_of_le Int.zero_lt_one this
    have hx : 0 ≤ l.getD i 0 := (hlx _ (getD_mem (by omega))).1
    have d := tdm (l.getD i 0) hc
    obtain ⟨v1, v2, v3, v4⟩ := vec4 hk (d.2.2.2.1 hx).1 d.2.2.1
    exact ⟨_, k, _, hp, rfl, rfl, by rw [nearY_at Y l hi, hp], by omega, v1, v2, v3, v4, F.few, F.best _ v4⟩
  have hNl := nearY_len Y l
  generalize nearY Y l = N at *
  simp only [eq_self, true_and, and_true, Int.toNat_natCast, decide_true, Bool.not_true, cond_false]
  refine ⟨by decide, 0, ⟨⟨by rfl, by rfl⟩, by omega⟩, fun i hi _ => ?_⟩
  by_cases h8 : (i : Int) < 8
  · obtain ⟨v, k, e, e1, e2, e3, e4, e5, e6, e7, e8, e9, -, -⟩ := near i (by omega)
    have hX : (N.take i ++ Y.drop i).getD i (List.replicate 4 0) = Y.getD i z4 := by
      simp only [List.getD_eq_getElem?_getD]
      rw [List.getElem?_append_right (by simp; omega), List.length_take, hNl, Nat.min_eq_left (by omega), Nat.sub_self, List.getElem?_drop, Nat.add_zero]; rfl
    have hx := hlx _ (getD_mem (f := l) (k := i) (d := 0) (by omega))
    have hY4 : (Y.getD i z4).length = 4 := q4 _ (getD_mem (by omega))
    have w : IntKind.i64.wrap (l.getD i 0) = l.getD i 0 := w64 (by omega) (by omega)
    simp only [h8, decide_true, cond_true, hX, e1, w, e2, e3, e5, e6, e7, hY4, decide_false, cond_false, Bool.not_true, eq_self, and_true]
    refine ⟨⟨⟨by omega, by omega⟩, by omega, by decide, by omega⟩, ⟨⟨by omega, by omega⟩, by omega, e5⟩, ?_⟩
    rintro _ rfl
    simp only [cond_false]
    have e7' : ((4 : Nat) : Int) = 4 := rfl
    simp only [e7', decide_true, Bool.not_true, cond_false]
    refine ⟨by simp, ⟨by omega, by omega, by omega, by omega⟩, i + 1, ⟨step_i (by omega), set_step (by omega) (by omega) ?_⟩, by omega, by omega⟩
    rw [e4]; unfold seg; rw [List.drop_zero, List.take_of_length_le (by omega)]
  · have : i = 8 := by omega
    subst this
    simp only [h8, decide_false, cond_false]
    rw [List.take_of_length_le (by omega), List.drop_eq_nil_of_le (by omega), List.append_nil, decide_eq_true_eq]
    have hN : ∀ b : Nat, b < 8 → ∀ v, N[b]? = some v → N.getD b z4 = v := fun b hb v hv => by rw [List.getD_eq_getElem?_getD, hv]; rfl
    unfold errF
    refine err_le (s := (S, Y)) (t := (S, N)) ⟨q1, q2, q4⟩ ⟨q1, hNl, ?_⟩ rfl hst ?_ ?_ ?_ 8 (Nat.le_refl _)
    · intro y hy
      obtain ⟨b, hb, rfl⟩ := List.mem_iff_getElem.1 hy
      obtain ⟨v, k, e, e1, e2, e3, e4, e5, e6, e7, e8, e9, f1, f2⟩ := near b (show b < 8 by rw [← hNl]; exact hb)
      rw [List.getElem?_eq_getElem hb] at e4
      rw [Option.some.inj e4]; exact e7
    · intro b hb
      obtain ⟨v, k, e, e1, e2, e3, e4, e5, e6, e7, e8, e9, f1, f2⟩ := near b hb
      exact f1
    · intro b hb
      obtain ⟨v, k, e, e1, e2, e3, e4, e5, e6, e7, e8, e9, f1, f2⟩ := near b hb
      show fewF (N.getD b z4) = true
      rw [hN b hb v e4]; exact e8
    · intro b hb
      obtain ⟨v, k, e, e1, e2, e3, e4, e5, e6, e7, e8, e9, f1, f2⟩ := near b hb
      show farF _ (Y.getD b z4) _ ≤ farF _ (N.getD b z4) _
      rw [hN b hb v e4]; exact f2
end Go.SL.A

/- Functions do what they are held to do. -/
namespace Go.SL.A
open Go Go.SL Go.SL.S
theorem snd29 : Sound Go.Proofs.Try.prog G29 := snd64.add ⟨_, Go.Proofs.Try.func29, by kernel_rfl, by kernel_rfl⟩ (by
  intro args ins out h hp
  unfold sp29 at h
  split at h
  · rename_i f z l
    cases h
    exact vcFun_ok (C := C29) good snd64 methOk18 mix Go.Proofs.Try.func29 (ann29 f z l) (fun hw => by rw [← vc29 f z l]; exact pure29 f z l (hw29 hw))
  · cases h)

end Go.SL.A

/- CodeNearest: the law returns true, whatever its arguments; each argument reads afterwards as before. No condition. -/
namespace Go.Proofs.Ythhfccnhkadkcaa
open Go Go.SL Go.SL.S Go.ChangeShapes Go.WideShapes Go.ChangeAt Go.WideMaps Go.WideElems Go.RowKit
set_option maxRecDepth 100000

theorem parsT : ((Go.Proofs.Try.f29.params.toList).all fun t => Nat.blt t Go.Proofs.Try.prog.types.size) = true := by kernel_rfl
theorem parsL : Go.Proofs.Try.f29.params.toList = [27, 5, 110] := by kernel_rfl
theorem law_pure : ∀ avs bls, argsOk Go.SL.A.D Go.Proofs.Try.f29.params.toList 0 avs bls → VCall Go.Proofs.Try.prog 29 avs bls ⟨[], .v .bool true, [], []⟩ := by
  rw [parsL]
  intro avs bls h
  replace h : ∃ (t : Ty) (x : t.I) (avs' : List AV), Go.SL.A.D.ty 27 = some t ∧ avs = ⟨t, x⟩ :: avs' ∧ argsOk Go.SL.A.D [5, 110] 0 avs' bls := h
  obtain ⟨t, x0, avs, ht, rfl, h⟩ := h
  obtain rfl : .arr 32 (.int .i64) = t := Option.some.inj ((show (some (.arr 32 (.int .i64)) : Option Ty) = Go.SL.A.D.ty 27 by kernel_rfl).trans ht)
  replace h : ∃ (t : Ty) (x : t.I) (avs' : List AV), Go.SL.A.D.ty 5 = some t ∧ avs = ⟨t, x⟩ :: avs' ∧ argsOk Go.SL.A.D [110] 0 avs' bls := h
  obtain ⟨t, x1, avs, ht, rfl, h⟩ := h
  obtain rfl : .int .u8 = t := Option.some.inj ((show (some (.int .u8) : Option Ty) = Go.SL.A.D.ty 5 by kernel_rfl).trans ht)
  replace h : ∃ (t : Ty) (x : t.I) (avs' : List AV), Go.SL.A.D.ty 110 = some t ∧ avs = ⟨t, x⟩ :: avs' ∧ argsOk Go.SL.A.D [] 0 avs' bls := h
  obtain ⟨t, x2, avs, ht, rfl, h⟩ := h
  obtain rfl : .arr 8 (.int .u32) = t := Option.some.inj ((show (some (.arr 8 (.int .u32)) : Option Ty) = Go.SL.A.D.ty 110 by kernel_rfl).trans ht)
  obtain ⟨rfl, rfl⟩ : avs = [] ∧ bls = [] := h
  have q := (Go.SL.A.snd29 29 Go.SL.A.sp29 rfl).2 [⟨.arr 32 (.int .i64), x0⟩, ⟨.int .u8, x1⟩, ⟨.arr 8 (.int .u32), x2⟩] [] _ rfl (trivial)
  exact q

theorem lifted (os : Os) (started : os.Started) (H : Type) (enc : TypeId × Value → H) :
    ReturnsInHanded {} Go.Proofs.Try.checked os 29 .any (Rows.codeNearestSpec.pre6 enc Go.Proofs.Try.prog Go.Proofs.Try.f29 Rows.codeNearestRow.domain false) (Rows.codeNearestSpec.post enc Go.Proofs.Try.prog Go.Proofs.Try.f29 false true false false) := by
  refine returnsInHanded_of_change (C := Go.Proofs.Try.checked) Seat.own started (by kernel_rfl) Go.Proofs.Try.func29
    (ChangeSpec.witness6 (enc := enc) (C := Go.Proofs.Try.checked) false ⟨#[], #[.agg (Array.replicate 32 (.int .i64 0)), .int .u8 0, .agg (Array.replicate 8 (.int .u32 0))], []⟩ 8 (by kernel_rfl) (by kernel_rfl) (by kernel_rfl) (by kernel_rfl)) ?_
  intro W base args ds gs before hval hW _ _
  refine law_calls (D := Go.SL.A.D) Go.SL.A.good Seat.kids Seat.slicesFull (fun t ht => Nat.le_of_ble_eq_true (List.all_eq_true.1 parsT t ht)) (by kernel_rfl) (show Go.Proofs.Try.f29.resultTypes = #[4] by kernel_rfl) Go.Proofs.Try.underlying4 rfl (fun ds h => ?_) law_pure (fun _ _ h => by cases (show none = some _ from h)) hval hW
  have h : ds.length = 3 := h
  match ds, h with
  | [_, _, _], _ => rfl

theorem joined : joinedFacts Go.Proofs.Try.prog 29 Go.Proofs.Try.f29 Rows.codeNearestSpec Rows.codeNearestRow = true := by
  unfold joinedFacts
  exact (andT (andT (andT (andT (andT (andT (andT (andT (andT (andT (andT (andT (andT (andT (andT (andT (andT (andT (andT (andT (andT (andT (andT (andT (andT (andT (andT (andT (andT (andT (andT (by as_aux_lemma => kernel_rfl) Seat.laidOut) Seat.mapsRowed) (by as_aux_lemma => kernel_rfl)) (by as_aux_lemma => kernel_rfl)) (by as_aux_lemma => kernel_rfl)) Seat.stops) (by as_aux_lemma => kernel_rfl)) Seat.knobs) (by as_aux_lemma => kernel_rfl)) (by as_aux_lemma => kernel_rfl)) (by as_aux_lemma => kernel_rfl)) (by as_aux_lemma => kernel_rfl)) (by as_aux_lemma => kernel_rfl)) (by as_aux_lemma => kernel_rfl)) (by as_aux_lemma => kernel_rfl)) (by as_aux_lemma => kernel_rfl)) (by as_aux_lemma => kernel_rfl)) (by as_aux_lemma => kernel_rfl)) (by as_aux_lemma => kernel_rfl)) (by as_aux_lemma => kernel_rfl)) (by as_aux_lemma => kernel_rfl)) (by as_aux_lemma => kernel_rfl)) (by as_aux_lemma => kernel_rfl)) Seat.heard) Seat.mayEnter) (by rw [Seat.lifts]; rfl)) (by rw [Seat.made]; rfl)) (by as_aux_lemma => kernel_rfl)) (by as_aux_lemma => kernel_rfl)) (by as_aux_lemma => kernel_rfl)) (by as_aux_lemma => kernel_rfl))

theorem codeNearest_holds : Rows.CodeNearestSaid :=
  OpenClaim.holds_of_wide 29 Go.Proofs.Try.f29 rfl rfl rfl rfl rfl rfl rfl ⟨rfl, rfl, rfl, rfl, rfl⟩ rfl rfl rfl rfl rfl (by kernel_rfl) Go.Proofs.Try.func29 joined
    (of_decide_eq_true (by kernel_rfl)) (by unfold Func.isWrapper; first | (rw [if_pos (by decide +kernel)]; kernel_rfl) | (rw [if_neg (by decide +kernel)]; exact ⟨rfl, rfl⟩))
    (fun os started H enc _ => lifted os started H enc)

#print axioms codeNearest_holds
end Go.Proofs.Ythhfccnhkadkcaa
