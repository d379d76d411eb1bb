/- FadeAlone returns true, whatever its arguments, which read afterwards as before: no condition. -/
import Derived.Test.YthhfccnhkadkcaaRows
import Derived.Test.YthhfccnhkadkcaaFade
import Derived.Test.YthhfccnhkadkcaaKb
import Derived.Test.YthhfccnhkadkcaaT

/- Functions and what they are held to do: bound to their code. -/
namespace Go.SL.A
open Go Go.SL Go.SL.S
set_option maxRecDepth 100000
noncomputable def C5 : Ctx := ⟨Go.Proofs.Try.prog, D, G39, (fun _ _ => none), fun _ => []⟩
def ann5 (n m : Nat) (xs ys : List (Bool × List Int)) : Nat → St → Option Ann := fun _ _ => some ⟨Nat, [5, 6, 7, 8], [0, 1, 2, 3, 4, 8], fun k => [(9, .v (.int .i64) (k : Int))], fun _ => [], fun k => k ≤ (heldF xs).length, fun k => (heldF xs).length - k⟩
def sp5 : Spec := fun args ins => match args, ins with
  | [⟨.ref .slice, .slice 0 (.cons .bool (.last (.arr 32 (.int .i64)))) [] 0 n⟩, ⟨.ref .slice, .slice 1 (.cons .bool (.last (.arr 32 (.int .i64)))) [] 0 m⟩], [⟨true, false, .cons .bool (.last (.arr 32 (.int .i64))), xs⟩, ⟨true, false, .cons .bool (.last (.arr 32 (.int .i64))), ys⟩] => some ⟨[n = xs.length, m = ys.length], .v .bool true, [], []⟩
  | _, _ => none
def G5 := addG G39 5 sp5
def P5 (n m : Nat) (xs ys : List (Bool × List Int)) : Prop :=
  (n = List.length xs ∧ m = List.length ys) ∧ (List.length (heldF xs) = List.length (heldF xs) ∧ List.length (heldF xs) ≤ (1000 : Nat)) ∧ ((0 : Nat) + List.length (heldF xs) ≤ List.length (heldF xs) ∧ (0 : Nat) = (0 : Nat)
  ∧ ((0 : Nat) + List.length (seg (heldF xs) (0 : Nat) (List.length (heldF xs)))) * (264 : Nat) ≤ (70368744177664 : Nat) ∧ (0 : Nat) + List.length (heldF ys) ≤ List.length (heldF ys) ∧ (0 : Nat) + ((0 : Nat) + List.length
  (seg (heldF xs) (0 : Nat) (List.length (heldF xs)))) = List.length (seg (heldF xs) (0 : Nat) (List.length (heldF xs))) ∧ ((0 : Nat) + List.length (seg (heldF xs) (0 : Nat) (List.length (heldF xs))) + List.length (seg
  (heldF ys) (0 : Nat) (List.length (heldF ys)))) * (264 : Nat) ≤ (70368744177664 : Nat) ∧ (0 : Nat) + List.length (seg (heldF xs) (0 : Nat) (List.length (heldF xs))) + List.length (seg (heldF ys) (0 : Nat) (List.length
  (heldF ys))) = List.length (List.drop (0 : Nat) (seg (heldF xs) (0 : Nat) (List.length (heldF xs))) ++ seg (heldF ys) (0 : Nat) (List.length (heldF ys))) ∧ (0 : Nat) + List.length (seg (heldF xs) (0 : Nat) (List.length
  (heldF xs))) + List.length (seg (heldF ys) (0 : Nat) (List.length (heldF ys))) ≤ (1000 : Nat)) ∧ ∃ (x : Nat), (((0 : Nat) = (0 : Nat) ∧ List.length (heldF xs) = List.length (heldF xs) ∧ (0 : Nat) = (0 : Nat) ∧ List.length
  (heldF ys) = List.length (heldF ys) ∧ (0 : Nat) = (0 : Nat) ∧ List.length (heldF xs) = List.length (heldF xs) ∧ (0 : Nat) = (0 : Nat) ∧ (0 : Nat) + List.length (seg (heldF xs) (0 : Nat) (List.length (heldF xs))) +
  List.length (seg (heldF ys) (0 : Nat) (List.length (heldF ys))) = (0 : Nat) + List.length (seg (heldF xs) (0 : Nat) (List.length (heldF xs))) + List.length (seg (heldF ys) (0 : Nat) (List.length (heldF ys))) ∧ (0 : Int) =
  (↑x : Int) ∧ xs = xs ∧ true = true ∧ ys = ys ∧ true = true ∧ heldF xs = heldF xs ∧ false = false ∧ heldF ys = heldF ys ∧ false = false ∧ fillF (zero32, (0 : Int)) (heldF xs) = fillF (zero32, (0 : Int)) (heldF xs) ∧ false
  = false ∧ fillF (zero32, (0 : Int)) (List.drop (0 : Nat) (seg (heldF xs) (0 : Nat) (List.length (heldF xs))) ++ seg (heldF ys) (0 : Nat) (List.length (heldF ys))) = fillF (zero32, (0 : Int)) (List.drop (0 : Nat) (seg
  (heldF xs) (0 : Nat) (List.length (heldF xs))) ++ seg (heldF ys) (0 : Nat) (List.length (heldF ys))) ∧ false = false) ∧ x ≤ List.length (heldF xs)) ∧ ∀ (x : Nat), x ≤ List.length (heldF xs) → IntKind.min IntKind.i64 ≤ (↑x
  : Int) ∧ (↑x : Int) ≤ IntKind.max IntKind.i64 → bif decide ((↑x : Int) < (↑(List.length (heldF xs)) : Int)) then ∀ (b : Bool), (!decide ((↑((0 : Nat) + List.length (seg (heldF xs) (0 : Nat) (List.length (heldF xs))) +
  List.length (seg (heldF ys) (0 : Nat) (List.length (heldF ys)))) : Int) = IntKind.wrap IntKind.i64 ((↑(List.length (heldF xs)) : Int) + (↑(List.length (heldF ys)) : Int)))) = b → (((!b) = true → (!b) = true ∧ (!b) = true
  ∧ (0 : Int) ≤ (↑x : Int) ∧ (↑x : Int) < (↑(List.length (heldF xs)) : Int)) ∧ ((!b) = true → (!b) = true ∧ (0 : Nat) + Int.toNat (↑x : Int) < List.length (fillF (zero32, (0 : Int)) (heldF xs))) ∧ ((!b) = true → (!b) = true
  ∧ (!b) = true ∧ (0 : Int) ≤ (↑x : Int) ∧ (↑x : Int) < (↑((0 : Nat) + List.length (seg (heldF xs) (0 : Nat) (List.length (heldF xs))) + List.length (seg (heldF ys) (0 : Nat) (List.length (heldF ys)))) : Int)) ∧ ((!b) =
  true → (!b) = true ∧ (0 : Nat) + Int.toNat (↑x : Int) < List.length (fillF (zero32, (0 : Int)) (List.drop (0 : Nat) (seg (heldF xs) (0 : Nat) (List.length (heldF xs))) ++ seg (heldF ys) (0 : Nat) (List.length (heldF
  ys))))) ∧ ((!b) = true → (!b) = true ∧ (!b) = true) ∧ (b = false → (!b) = true)) ∧ bif bif b then true else !Ty.eqb (Ty.arr (32 : Nat) (Ty.int IntKind.i64)) (List.getD (fillF (zero32, (0 : Int)) (heldF xs)) ((0 : Nat) +
  Int.toNat (↑x : Int)) (List.replicate (32 : Nat) (0 : Int))) (List.getD (fillF (zero32, (0 : Int)) (List.drop (0 : Nat) (seg (heldF xs) (0 : Nat) (List.length (heldF xs))) ++ seg (heldF ys) (0 : Nat) (List.length (heldF
  ys)))) ((0 : Nat) + Int.toNat (↑x : Int)) (List.replicate (32 : Nat) (0 : Int))) then false = true ∧ xs = xs ∧ true = true ∧ ys = ys ∧ true = true else ∃ (y : Nat), ((0 : Nat) = (0 : Nat) ∧ List.length (heldF xs) =
  List.length (heldF xs) ∧ (0 : Nat) = (0 : Nat) ∧ List.length (heldF ys) = List.length (heldF ys) ∧ (0 : Nat) = (0 : Nat) ∧ List.length (heldF xs) = List.length (heldF xs) ∧ (0 : Nat) = (0 : Nat) ∧ (0 : Nat) + List.length
  (seg (heldF xs) (0 : Nat) (List.length (heldF xs))) + List.length (seg (heldF ys) (0 : Nat) (List.length (heldF ys))) = (0 : Nat) + List.length (seg (heldF xs) (0 : Nat) (List.length (heldF xs))) + List.length (seg (heldF
  ys) (0 : Nat) (List.length (heldF ys))) ∧ IntKind.wrap IntKind.i64 ((↑x : Int) + (1 : Int)) = (↑y : Int) ∧ xs = xs ∧ true = true ∧ ys = ys ∧ true = true ∧ heldF xs = heldF xs ∧ false = false ∧ heldF ys = heldF ys ∧ false
  = false ∧ fillF (zero32, (0 : Int)) (heldF xs) = fillF (zero32, (0 : Int)) (heldF xs) ∧ false = false ∧ fillF (zero32, (0 : Int)) (List.drop (0 : Nat) (seg (heldF xs) (0 : Nat) (List.length (heldF xs))) ++ seg (heldF ys)
  (0 : Nat) (List.length (heldF ys))) = fillF (zero32, (0 : Int)) (List.drop (0 : Nat) (seg (heldF xs) (0 : Nat) (List.length (heldF xs))) ++ seg (heldF ys) (0 : Nat) (List.length (heldF ys))) ∧ false = false) ∧ y ≤
  List.length (heldF xs) ∧ List.length (heldF xs) - y < List.length (heldF xs) - x else bif decide ((↑(List.length (heldF xs)) : Int) = (↑(List.length (heldF xs)) : Int)) then (List.length (heldF xs) = List.length (heldF
  xs) ∧ List.length (heldF xs) ≤ (1000000 : Nat) ∧ List.length (heldF ys) = List.length (heldF ys) ∧ List.length (heldF ys) ≤ (1000000 : Nat) ∧ (0 : Nat) + List.length (heldF xs) ≤ List.length (heldF xs) ∧ (0 : Nat) = (0 :
  Nat) ∧ ((0 : Nat) + List.length (seg (heldF xs) (0 : Nat) (List.length (heldF xs)))) * (264 : Nat) ≤ (70368744177664 : Nat) ∧ (0 : Nat) + List.length (heldF ys) ≤ List.length (heldF ys) ∧ (0 : Nat) + ((0 : Nat) +
  List.length (seg (heldF xs) (0 : Nat) (List.length (heldF xs)))) = List.length (seg (heldF xs) (0 : Nat) (List.length (heldF xs))) ∧ ((0 : Nat) + List.length (seg (heldF xs) (0 : Nat) (List.length (heldF xs))) +
  List.length (seg (heldF ys) (0 : Nat) (List.length (heldF ys)))) * (264 : Nat) ≤ (70368744177664 : Nat) ∧ (0 : Nat) + List.length (seg (heldF xs) (0 : Nat) (List.length (heldF xs))) + List.length (seg (heldF ys) (0 : Nat)
  (List.length (heldF ys))) = List.length (List.drop (0 : Nat) (seg (heldF xs) (0 : Nat) (List.length (heldF xs))) ++ seg (heldF ys) (0 : Nat) (List.length (heldF ys))) ∧ (0 : Nat) + List.length (seg (heldF xs) (0 : Nat)
  (List.length (heldF xs))) + List.length (seg (heldF ys) (0 : Nat) (List.length (heldF ys))) ≤ (1000000 : Nat)) ∧ decide (IntKind.wrap IntKind.i64 (lostF (heldF xs) + lostF (heldF ys)) = lostF (List.drop (0 : Nat) (seg
  (heldF xs) (0 : Nat) (List.length (heldF xs))) ++ seg (heldF ys) (0 : Nat) (List.length (heldF ys)))) = true ∧ xs = xs ∧ true = true ∧ ys = ys ∧ true = true else (false = true → false = true) ∧ false = true ∧ xs = xs ∧
  true = true ∧ ys = ys ∧ true = true
theorem vc5 (n m : Nat) (xs ys : List (Bool × List Int)) : P5 n m xs ys = vcFun C5 (ann5 n m xs ys) Go.Proofs.Try.f5 [⟨.ref .slice, .slice 0 (.cons .bool (.last (.arr 32 (.int .i64)))) [] 0 n⟩, ⟨.ref .slice, .slice 1 (.cons .bool (.last (.arr 32 (.int .i64)))) [] 0 m⟩] [⟨true, false, .cons .bool (.last (.arr 32 (.int .i64))), xs⟩, ⟨true, false, .cons .bool (.last (.arr 32 (.int .i64))), ys⟩] ⟨[n = xs.length, m = ys.length], .v .bool true, [], []⟩ := by kernel_rfl

end Go.SL.A

namespace Go.SL.A
open Go Go.SL Go.SL.S

theorem seg_all {α : Type} (l : List α) : seg l 0 l.length = l := by simp [seg]

theorem fillF_append : ∀ (a b : List (Bool × List Int)) (s : List Int × Int), fillF s (a ++ b) = fillF s a ++ fillF (a.foldl nextF s) b
  | [], b, s => rfl
  | g :: a, b, s => by simp [fillF, fillF_append a b]

theorem lostF_append (a b : List (Bool × List Int)) : lostF (a ++ b) = lostF a + lostF b := by
  unfold lostF; rw [List.countP_append]; simp

theorem pure5 (n m : Nat) (xs ys : List (Bool × List Int)) (hn : n = xs.length) (hm : m = ys.length) : P5 n m xs ys := by
  unfold P5
  have hx := heldF_len xs
  have hy := heldF_len ys
  generalize heldF xs = a at *
  generalize heldF ys = b at *
  have hfa := fillF_len a (zero32, 0)
  have hfb := fillF_len (a ++ b) (zero32, 0)
  simp only [seg_all, Int.toNat_natCast, Nat.zero_add, List.drop_zero, hfa, hfb, List.length_append, eq_self, true_and, and_true, decide_true, cond_true, Nat.le_refl]
  have hw0 : IntKind.i64.wrap ((a.length : Int) + (b.length : Int)) = ((a.length + b.length : Nat) : Int) := by rw [w64 (by omega) (by omega)]; simp
  rw [hw0]
  refine ⟨⟨hn, hm⟩, by omega, by omega, 0, ⟨by simp, by simp⟩, fun k hk _ => ?_⟩
  by_cases h : (k : Int) < (a.length : Int)
  · have hw : IntKind.i64.wrap ((k : Int) + 1) = ((k + 1 : Nat) : Int) := by rw [w64 (by omega) (by omega)]; simp
    have hk2 : k < a.length := by omega
    have e : (fillF (zero32, 0) (a ++ b)).getD k (List.replicate 32 0) = (fillF (zero32, 0) a).getD k (List.replicate 32 0) := by
      rw [fillF_append, List.getD_eq_getElem?_getD, List.getD_eq_getElem?_getD, List.getElem?_append_left (by omega)]
    simp only [h, decide_true, cond_true, e, eqb_refl_int, Bool.not_true]
    rintro _ rfl
    simp only [cond_false]
    exact ⟨by simp [hk2]; omega, k + 1, hw, by omega, by omega⟩
  · simp only [h, decide_false, cond_false]
    have hl := lostF_append a b
    have h1 := lostF_le a
    have h2 := lostF_le b
    have hw1 : IntKind.i64.wrap (lostF a + lostF b) = lostF (a ++ b) := by rw [hl]; exact w64 (by omega) (by omega)
    rw [hw1]
    refine ⟨by omega, by simp⟩

theorem hw5 {n m : Nat} {xs ys : List (Bool × List Int)} (_ : allP (List.flatMap (fun a : AV => a.t.wf a.x) [⟨.ref .slice, .slice 0 (.cons .bool (.last (.arr 32 (.int .i64)))) [] 0 n⟩, ⟨.ref .slice, .slice 1 (.cons .bool (.last (.arr 32 (.int .i64)))) [] 0 m⟩] ++ List.flatMap Blk.wf [⟨true, false, .cons .bool (.last (.arr 32 (.int .i64))), xs⟩, ⟨true, false, .cons .bool (.last (.arr 32 (.int .i64))), ys⟩])) : True := trivial
end Go.SL.A

/- Functions do what they are held to do. -/
namespace Go.SL.A
open Go Go.SL Go.SL.S
theorem snd5 : Sound Go.Proofs.Try.prog G5 := snd39.add ⟨_, Go.Proofs.Try.func5, by kernel_rfl, by kernel_rfl⟩ (by
  intro args ins out h hp
  unfold sp5 at h
  split at h
  · rename_i n m xs ys
    cases h
    exact vcFun_ok (C := C5) good snd39 Meth.none mix Go.Proofs.Try.func5 (ann5 n m xs ys) (fun hw => (vc5 n m xs ys) ▸ pure5 n m xs ys hp.1 hp.2)
  · cases h)

end Go.SL.A

/- FadeAlone: the law returns true, whatever its arguments; each argument reads afterwards as before. No condition. -/
namespace Go.Proofs.Ythhfccnhkadkcaa
open Go Go.SL Go.SL.S Go.ChangeShapes Go.WideShapes Go.ChangeAt Go.WideMaps Go.WideElems Go.RowKit
set_option maxRecDepth 100000

theorem parsT : ((Go.Proofs.Try.f5.params.toList).all fun t => Nat.blt t Go.Proofs.Try.prog.types.size) = true := by kernel_rfl
theorem parsL : Go.Proofs.Try.f5.params.toList = [22, 22] := by kernel_rfl
theorem law_pure : ∀ avs bls, argsOk Go.SL.A.D Go.Proofs.Try.f5.params.toList 0 avs bls → VCall Go.Proofs.Try.prog 5 avs bls ⟨[], .v .bool true, [], []⟩ := by
  rw [parsL]
  intro avs bls h
  replace h : ∃ (t : Ty) (xs : List t.I) (avs' : List AV) (bls' : List Blk), Go.SL.A.D.ty 30 = some t ∧ avs = ⟨.ref .slice, .slice 0 t [] 0 xs.length⟩ :: avs' ∧ bls = ⟨true, false, t, xs⟩ :: bls' ∧ argsOk Go.SL.A.D [22] 1 avs' bls' := h
  obtain ⟨t, x0, avs, bls, ht, rfl, rfl, h⟩ := h
  obtain rfl : .cons .bool (.last (.arr 32 (.int .i64))) = t := Option.some.inj ((show (some (.cons .bool (.last (.arr 32 (.int .i64)))) : Option Ty) = Go.SL.A.D.ty 30 by kernel_rfl).trans ht)
  replace h : ∃ (t : Ty) (xs : List t.I) (avs' : List AV) (bls' : List Blk), Go.SL.A.D.ty 30 = some t ∧ avs = ⟨.ref .slice, .slice 1 t [] 0 xs.length⟩ :: avs' ∧ bls = ⟨true, false, t, xs⟩ :: bls' ∧ argsOk Go.SL.A.D [] 2 avs' bls' := h
  obtain ⟨t, x1, avs, bls, ht, rfl, rfl, h⟩ := h
  obtain rfl : .cons .bool (.last (.arr 32 (.int .i64))) = t := Option.some.inj ((show (some (.cons .bool (.last (.arr 32 (.int .i64)))) : Option Ty) = Go.SL.A.D.ty 30 by kernel_rfl).trans ht)
  obtain ⟨rfl, rfl⟩ : avs = [] ∧ bls = [] := h
  have q := (Go.SL.A.snd5 5 Go.SL.A.sp5 rfl).2 [⟨.ref .slice, .slice 0 (.cons .bool (.last (.arr 32 (.int .i64)))) [] 0 x0.length⟩, ⟨.ref .slice, .slice 1 (.cons .bool (.last (.arr 32 (.int .i64)))) [] 0 x1.length⟩] [⟨true, false, .cons .bool (.last (.arr 32 (.int .i64))), x0⟩, ⟨true, false, .cons .bool (.last (.arr 32 (.int .i64))), x1⟩] _ rfl (⟨rfl, rfl⟩)
  exact q

theorem lifted (os : Os) (started : os.Started) (H : Type) (enc : TypeId × Value → H) :
    ReturnsInHanded {} Go.Proofs.Try.checked os 5 .any (Rows.fadeAloneSpec.pre6 enc Go.Proofs.Try.prog Go.Proofs.Try.f5 Rows.fadeAloneRow.domain false) (Rows.fadeAloneSpec.post enc Go.Proofs.Try.prog Go.Proofs.Try.f5 false true false false) := by
  refine returnsInHanded_of_change (C := Go.Proofs.Try.checked) Seat.own started (by kernel_rfl) Go.Proofs.Try.func5
    (ChangeSpec.witness6 (enc := enc) (C := Go.Proofs.Try.checked) false ⟨#[], #[.slice none 0 0, .slice none 0 0], []⟩ 8 (by kernel_rfl) (by kernel_rfl) (by kernel_rfl) (by kernel_rfl)) ?_
  intro W base args ds gs before hval hW _ _
  refine law_calls (D := Go.SL.A.D) Go.SL.A.good Seat.kids Seat.slicesFull (fun t ht => Nat.le_of_ble_eq_true (List.all_eq_true.1 parsT t ht)) (by kernel_rfl) (show Go.Proofs.Try.f5.resultTypes = #[4] by kernel_rfl) Go.Proofs.Try.underlying4 rfl (fun ds h => ?_) law_pure hval hW
  have h : ds.length = 2 := h
  match ds, h with
  | [_, _], _ => rfl

theorem joined : joinedFacts Go.Proofs.Try.prog 5 Go.Proofs.Try.f5 Rows.fadeAloneSpec Rows.fadeAloneRow = true := by
  unfold joinedFacts
  exact (andT (andT (andT (andT (andT (andT (andT (andT (andT (andT (andT (andT (andT (andT (andT (andT (andT (andT (andT (andT (andT (andT (andT (andT (andT (andT (andT (andT (andT (andT (andT (by as_aux_lemma => kernel_rfl) Seat.laidOut) Seat.mapsRowed) (by as_aux_lemma => kernel_rfl)) (by as_aux_lemma => kernel_rfl)) (by as_aux_lemma => kernel_rfl)) Seat.stops) (by as_aux_lemma => kernel_rfl)) Seat.knobs) (by as_aux_lemma => kernel_rfl)) (by as_aux_lemma => kernel_rfl)) (by as_aux_lemma => kernel_rfl)) (by as_aux_lemma => kernel_rfl)) (by as_aux_lemma => kernel_rfl)) (by as_aux_lemma => kernel_rfl)) (by as_aux_lemma => kernel_rfl)) (by as_aux_lemma => kernel_rfl)) (by as_aux_lemma => kernel_rfl)) (by as_aux_lemma => kernel_rfl)) (by as_aux_lemma => kernel_rfl)) (by as_aux_lemma => kernel_rfl)) (by as_aux_lemma => kernel_rfl)) (by as_aux_lemma => kernel_rfl)) (by as_aux_lemma => kernel_rfl)) Seat.heard) Seat.mayEnter) (by rw [Seat.lifts]; rfl)) (by rw [Seat.made]; rfl)) (by as_aux_lemma => kernel_rfl)) (by as_aux_lemma => kernel_rfl)) (by as_aux_lemma => kernel_rfl)) (by as_aux_lemma => kernel_rfl))

theorem fadeAlone_holds : Rows.FadeAloneSaid :=
  OpenClaim.holds_of_wide 5 Go.Proofs.Try.f5 rfl rfl rfl rfl rfl rfl rfl ⟨rfl, rfl, rfl, rfl, rfl⟩ rfl rfl rfl rfl rfl (by kernel_rfl) Go.Proofs.Try.func5 joined
    (of_decide_eq_true (by kernel_rfl)) (by unfold Func.isWrapper; first | (rw [if_pos (by decide +kernel)]; kernel_rfl) | (rw [if_neg (by decide +kernel)]; exact ⟨rfl, rfl⟩))
    (fun os started H enc _ => lifted os started H enc)

#print axioms fadeAlone_holds
end Go.Proofs.Ythhfccnhkadkcaa
