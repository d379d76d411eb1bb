/- GiveLouder returns true, whatever its arguments, which read afterwards as before: no condition. -/
import Derived.Test.YthhfccnhkadkcaaRows
import Derived.Test.YthhfccnhkadkcaaGive
import Derived.Test.YthhfccnhkadkcaaKb
import Derived.Test.YthhfccnhkadkcaaT

/- Functions and what they are held to do: bound to their code. -/
namespace Go.SL.A
open Go Go.SL Go.SL.S
set_option maxRecDepth 100000
noncomputable def C15 : Ctx := ⟨Go.Proofs.Try.prog, D, G55, meth18, fun _ => []⟩
def ann15 (s : List Int) (_bits _a : Int) : Nat → St → Option Ann := fun id S => match id with | 0 => some ⟨Nat, [2, 7, 8, 9], [1, 2], fun i => [(12, .v (.int .i64) (i : Int)), (11, .v (.int .i64) (topTo (held8 s) i))], fun _ => [], fun i => i ≤ 8, fun i => 8 - i⟩ | _ => some ⟨Nat, [7, 8, 9, 13], [2], fun i => [(14, .v (.int .i64) (i : Int))], fun i => [(1, some ⟨false, true, .arr 8 (.int .i64), [((held8 s).map (· + S.i 13)).take i ++ (held8 s).drop i]⟩)], fun i => i ≤ 8, fun i => 8 - i⟩
def out15 (_s : List Int) (_bits _a : Int) : COut := ⟨[], .v .bool true, [], []⟩
def sp15 : Spec := fun args ins => match args, ins with
  | [⟨.arr 8 (.int .i64), s⟩, ⟨.int .u16, bits⟩, ⟨.int .u8, a⟩], [] => some (out15 s bits a)
  | _, _ => none
def G15 := addG G55 15 sp15
def P15 (s : List Int) (bits a : Int) : Prop :=
  (1000 : Int) ≠ (0 : Int) ∧ bif !decide (giveE (held8 s) (Int.tmod (IntKind.wrap IntKind.i64 bits) (1000 : Int)) = (0 : Int)) then false = true else ∃ (x : Nat), ((a = a ∧ Int.tmod (IntKind.wrap IntKind.i64 bits) (1000 :
  Int) = Int.tmod (IntKind.wrap IntKind.i64 bits) (1000 : Int) ∧ (0 : Nat) = (0 : Nat) ∧ (0 : Nat) = (0 : Nat) ∧ (0 : Int) = topTo (held8 s) x ∧ (0 : Int) = (↑x : Int) ∧ held8 s = held8 s ∧ false = false ∧ giveV (held8 s)
  (Int.tmod (IntKind.wrap IntKind.i64 bits) (1000 : Int)) = giveV (held8 s) (Int.tmod (IntKind.wrap IntKind.i64 bits) (1000 : Int)) ∧ false = false) ∧ x ≤ (8 : Nat)) ∧ ∀ (x : Nat), x ≤ (8 : Nat) → IntKind.min IntKind.i64 ≤
  (↑x : Int) ∧ (↑x : Int) ≤ IntKind.max IntKind.i64 ∧ IntKind.min IntKind.i64 ≤ topTo (held8 s) x ∧ topTo (held8 s) x ≤ IntKind.max IntKind.i64 → bif decide ((↑x : Int) < (8 : Int)) then (((0 : Int) ≤ (↑x : Int) ∧ (↑x :
  Int) < (↑(8 : Nat) : Int)) ∧ Int.toNat (↑x : Int) < (8 : Nat)) ∧ ∃ (y : Nat), (a = a ∧ Int.tmod (IntKind.wrap IntKind.i64 bits) (1000 : Int) = Int.tmod (IntKind.wrap IntKind.i64 bits) (1000 : Int) ∧ (0 : Nat) = (0 : Nat)
  ∧ (0 : Nat) = (0 : Nat) ∧ max (topTo (held8 s) x) (List.getD (held8 s) (Int.toNat (↑x : Int)) (0 : Int)) = topTo (held8 s) y ∧ IntKind.wrap IntKind.i64 ((↑x : Int) + (1 : Int)) = (↑y : Int) ∧ held8 s = held8 s ∧ false =
  false ∧ giveV (held8 s) (Int.tmod (IntKind.wrap IntKind.i64 bits) (1000 : Int)) = giveV (held8 s) (Int.tmod (IntKind.wrap IntKind.i64 bits) (1000 : Int)) ∧ false = false) ∧ y ≤ (8 : Nat) ∧ (8 : Nat) - y < (8 : Nat) - x
  else IntKind.wrap IntKind.i64 ((16 : Int) - topTo (held8 s) x) ≠ (0 : Int) ∧ ∃ (x_1 : Nat), ((Int.tmod (IntKind.wrap IntKind.i64 bits) (1000 : Int) = Int.tmod (IntKind.wrap IntKind.i64 bits) (1000 : Int) ∧ (0 : Nat) = (0
  : Nat) ∧ (0 : Nat) = (0 : Nat) ∧ Int.tmod (IntKind.wrap IntKind.i64 a) (IntKind.wrap IntKind.i64 ((16 : Int) - topTo (held8 s) x)) = Int.tmod (IntKind.wrap IntKind.i64 a) (IntKind.wrap IntKind.i64 ((16 : Int) - topTo
  (held8 s) x)) ∧ (0 : Int) = (↑x_1 : Int) ∧ held8 s = List.take x_1 (List.map (fun (x_2 : Int) => x_2 + Int.tmod (IntKind.wrap IntKind.i64 a) (IntKind.wrap IntKind.i64 ((16 : Int) - topTo (held8 s) x))) (held8 s)) ++
  List.drop x_1 (held8 s) ∧ false = false ∧ giveV (held8 s) (Int.tmod (IntKind.wrap IntKind.i64 bits) (1000 : Int)) = giveV (held8 s) (Int.tmod (IntKind.wrap IntKind.i64 bits) (1000 : Int)) ∧ false = false) ∧ x_1 ≤ (8 :
  Nat)) ∧ ∀ (x_2 : Nat), x_2 ≤ (8 : Nat) → (IntKind.min IntKind.i64 ≤ (↑x_2 : Int) ∧ (↑x_2 : Int) ≤ IntKind.max IntKind.i64 ∧ ∀ (y : List Int), List.Mem y [List.take x_2 (List.map (fun (x_3 : Int) => x_3 + Int.tmod
  (IntKind.wrap IntKind.i64 a) (IntKind.wrap IntKind.i64 ((16 : Int) - topTo (held8 s) x))) (held8 s)) ++ List.drop x_2 (held8 s)] → List.length y = (8 : Nat) ∧ ∀ (y_1 : Int), List.Mem y_1 y → IntKind.min IntKind.i64 ≤ y_1
  ∧ y_1 ≤ IntKind.max IntKind.i64) → bif decide ((↑x_2 : Int) < (8 : Int)) then (((0 : Int) ≤ (↑x_2 : Int) ∧ (↑x_2 : Int) < (↑(8 : Nat) : Int)) ∧ Int.toNat (↑x_2 : Int) < (8 : Nat) ∧ ((0 : Int) ≤ (↑x_2 : Int) ∧ (↑x_2 : Int)
  < (↑(8 : Nat) : Int)) ∧ Int.toNat (↑x_2 : Int) < (8 : Nat)) ∧ ∃ (y : Nat), (Int.tmod (IntKind.wrap IntKind.i64 bits) (1000 : Int) = Int.tmod (IntKind.wrap IntKind.i64 bits) (1000 : Int) ∧ (0 : Nat) = (0 : Nat) ∧ (0 : Nat)
  = (0 : Nat) ∧ Int.tmod (IntKind.wrap IntKind.i64 a) (IntKind.wrap IntKind.i64 ((16 : Int) - topTo (held8 s) x)) = Int.tmod (IntKind.wrap IntKind.i64 a) (IntKind.wrap IntKind.i64 ((16 : Int) - topTo (held8 s) x)) ∧
  IntKind.wrap IntKind.i64 ((↑x_2 : Int) + (1 : Int)) = (↑y : Int) ∧ List.set (List.take x_2 (List.map (fun (x_3 : Int) => x_3 + Int.tmod (IntKind.wrap IntKind.i64 a) (IntKind.wrap IntKind.i64 ((16 : Int) - topTo (held8 s)
  x))) (held8 s)) ++ List.drop x_2 (held8 s)) (Int.toNat (↑x_2 : Int)) (IntKind.wrap IntKind.i64 (List.getD (List.take x_2 (List.map (fun (x_3 : Int) => x_3 + Int.tmod (IntKind.wrap IntKind.i64 a) (IntKind.wrap IntKind.i64
  ((16 : Int) - topTo (held8 s) x))) (held8 s)) ++ List.drop x_2 (held8 s)) (Int.toNat (↑x_2 : Int)) (0 : Int) + Int.tmod (IntKind.wrap IntKind.i64 a) (IntKind.wrap IntKind.i64 ((16 : Int) - topTo (held8 s) x)))) =
  List.take y (List.map (fun (x_3 : Int) => x_3 + Int.tmod (IntKind.wrap IntKind.i64 a) (IntKind.wrap IntKind.i64 ((16 : Int) - topTo (held8 s) x))) (held8 s)) ++ List.drop y (held8 s) ∧ false = false ∧ giveV (held8 s)
  (Int.tmod (IntKind.wrap IntKind.i64 bits) (1000 : Int)) = giveV (held8 s) (Int.tmod (IntKind.wrap IntKind.i64 bits) (1000 : Int)) ∧ false = false) ∧ y ≤ (8 : Nat) ∧ (8 : Nat) - y < (8 : Nat) - x_2 else ∀ (b : Bool),
  decide (giveE (List.take x_2 (List.map (fun (x_3 : Int) => x_3 + Int.tmod (IntKind.wrap IntKind.i64 a) (IntKind.wrap IntKind.i64 ((16 : Int) - topTo (held8 s) x))) (held8 s)) ++ List.drop x_2 (held8 s)) (Int.tmod
  (IntKind.wrap IntKind.i64 bits) (1000 : Int)) = (0 : Int)) = b → ((b = true → b = true ∧ b = true) ∧ (b = true → b = true)) ∧ (bif b then Ty.eqb (Ty.arr (8 : Nat) (Ty.int IntKind.i64)) (giveV (List.take x_2 (List.map (fun
  (x_3 : Int) => x_3 + Int.tmod (IntKind.wrap IntKind.i64 a) (IntKind.wrap IntKind.i64 ((16 : Int) - topTo (held8 s) x))) (held8 s)) ++ List.drop x_2 (held8 s)) (Int.tmod (IntKind.wrap IntKind.i64 bits) (1000 : Int)))
  (giveV (held8 s) (Int.tmod (IntKind.wrap IntKind.i64 bits) (1000 : Int))) else false) = true
theorem vc15 (s : List Int) (bits a : Int) : P15 s bits a = vcFun C15 (ann15 s bits a) Go.Proofs.Try.f15 [⟨.arr 8 (.int .i64), s⟩, ⟨.int .u16, bits⟩, ⟨.int .u8, a⟩] [] (out15 s bits a) := by kernel_rfl

end Go.SL.A

namespace Go.SL.A
open Go Go.SL Go.SL.S

theorem pure15 (s : List Int) (bits a : Int) (hw : s.length = 8 ∧ (0 ≤ bits ∧ bits ≤ 65535) ∧ 0 ≤ a ∧ a ≤ 255) : P15 s bits a := by
  obtain ⟨hl, ⟨a1, a2⟩, b1, b2⟩ := hw
  unfold P15
  rw [w64 (n := bits) (by omega) (by omega), w64 (n := a) (by omega) (by omega)]
  have d1 := tdm bits (k := 1000) (by decide)
  have hr := held8_right s
  have hL := held8_len hl
  have hB : 0 ≤ bits.tmod 1000 ∧ bits.tmod 1000 ≤ 1048576 := by omega
  clear d1
  generalize bits.tmod 1000 = B at *
  obtain ⟨hE, hV⟩ := giveV_ok hr hB
  have hat := right_at hr
  generalize held8 s = h at *
  rw [hE]
  simp only [decide_true, Bool.not_true, cond_false, eq_self, true_and, and_true, Int.toNat_natCast]
  refine ⟨by decide, 0, ⟨⟨rfl, rfl⟩, by omega⟩, fun i hi _ => ?_⟩
  obtain ⟨t1, t2⟩ := topTo_spec h hat i
  by_cases h8 : (i : Int) < 8
  · simp only [h8, decide_true, cond_true]
    exact ⟨⟨by omega, by omega⟩, i + 1, ⟨rfl, step_i (by omega)⟩, by omega, by omega⟩
  · have : i = 8 := by omega
    subst this
    simp only [h8, decide_false, cond_false]
    rw [w64 (n := 16 - topTo h 8) (by omega) (by omega)]
    have d2 := tdm a (k := 16 - topTo h 8) (by omega)
    have hm : 0 ≤ a.tmod (16 - topTo h 8) ∧ a.tmod (16 - topTo h 8) < 16 - topTo h 8 := by omega
    clear d2
    generalize a.tmod (16 - topTo h 8) = m at *
    refine ⟨by omega, 0, ⟨⟨rfl, rfl⟩, by omega⟩, fun j hj _ => ?_⟩
    by_cases j8 : (j : Int) < 8
    · simp only [j8, decide_true, cond_true]
      have hjl : j < h.length := by omega
      have hml : (h.map fun x => x + m).length = 8 := by simp [hL]
      have e : ((h.map fun x => x + m).take j ++ h.drop j).getD j 0 = h.getD j 0 := by
        simp only [List.getD_eq_getElem?_getD]
        rw [List.getElem?_append_right (by simp; omega), List.length_take, hml, Nat.min_eq_left (by omega), Nat.sub_self, List.getElem?_drop, Nat.add_zero]
      have hj2 := hat j
      rw [e, w64 (n := h.getD j 0 + m) (by omega) (by omega)]
      refine ⟨⟨by omega, by omega, by omega, by omega⟩, j + 1, ⟨step_i (by omega), set_step (by omega) hjl ?_⟩, by omega, by omega⟩
      rw [List.getElem?_map, List.getD_eq_getElem?_getD, List.getElem?_eq_getElem hjl]; rfl
    · have : j = 8 := by omega
      subst this
      simp only [j8, decide_false, cond_false]
      have hml : (h.map fun x => x + m).length = 8 := by simp [hL]
      rw [List.take_of_length_le (by omega), List.drop_eq_nil_of_le (by omega), List.append_nil]
      have hr2 : rightF (h.map fun x => x + m) = true := by
        unfold rightF
        simp only [Bool.not_eq_true', List.any_eq_false]
        intro x hx
        obtain ⟨c, hc, rfl⟩ := List.mem_iff_getElem.1 hx
        have c1 := hat c
        have c2 := t2 c (by omega)
        have e : (h.map fun x => x + m)[c] = h.getD c 0 + m := by
          rw [List.getElem_map, List.getD_eq_getElem?_getD, List.getElem?_eq_getElem (by omega)]; rfl
        rw [e]
        unfold badF
        simp only [Bool.or_eq_true, decide_eq_true_eq]; omega
      obtain ⟨hE2, hV2⟩ := giveV_ok hr2 hB
      rw [hE2, hV2, hV, giveF_shift hL m hB.1]
      rintro _ rfl
      obtain ⟨_, _, hgl, -⟩ := give_end h hB.1
      simp only [decide_true, cond_true, forall_const, and_self, true_and]
      rw [eqbA hgl hgl]; simp
end Go.SL.A

/- Functions do what they are held to do. -/
namespace Go.SL.A
open Go Go.SL Go.SL.S
theorem snd15 : Sound Go.Proofs.Try.prog G15 := snd55.add ⟨_, Go.Proofs.Try.func15, by kernel_rfl, by kernel_rfl⟩ (by
  intro args ins out h hp
  unfold sp15 at h
  split at h
  · rename_i s bits a
    cases h
    exact vcFun_ok (C := C15) good snd55 methOk18 mix Go.Proofs.Try.func15 (ann15 s bits a) (fun hw => by rw [← vc15 s bits a]; exact pure15 s bits a (hw15 hw))
  · cases h)

end Go.SL.A

/- GiveLouder: the law returns true, whatever its arguments; each argument reads afterwards as before. No condition. -/
namespace Go.Proofs.Ythhfccnhkadkcaa
open Go Go.SL Go.SL.S Go.ChangeShapes Go.WideShapes Go.ChangeAt Go.WideMaps Go.WideElems Go.RowKit
set_option maxRecDepth 100000

theorem parsT : ((Go.Proofs.Try.f15.params.toList).all fun t => Nat.blt t Go.Proofs.Try.prog.types.size) = true := by kernel_rfl
theorem parsL : Go.Proofs.Try.f15.params.toList = [64, 65, 5] := by kernel_rfl
theorem law_pure : ∀ avs bls, argsOk Go.SL.A.D Go.Proofs.Try.f15.params.toList 0 avs bls → VCall Go.Proofs.Try.prog 15 avs bls ⟨[], .v .bool true, [], []⟩ := by
  rw [parsL]
  intro avs bls h
  replace h : ∃ (t : Ty) (x : t.I) (avs' : List AV), Go.SL.A.D.ty 64 = some t ∧ avs = ⟨t, x⟩ :: avs' ∧ argsOk Go.SL.A.D [65, 5] 0 avs' bls := h
  obtain ⟨t, x0, avs, ht, rfl, h⟩ := h
  obtain rfl : .arr 8 (.int .i64) = t := Option.some.inj ((show (some (.arr 8 (.int .i64)) : Option Ty) = Go.SL.A.D.ty 64 by kernel_rfl).trans ht)
  replace h : ∃ (t : Ty) (x : t.I) (avs' : List AV), Go.SL.A.D.ty 65 = some t ∧ avs = ⟨t, x⟩ :: avs' ∧ argsOk Go.SL.A.D [5] 0 avs' bls := h
  obtain ⟨t, x1, avs, ht, rfl, h⟩ := h
  obtain rfl : .int .u16 = t := Option.some.inj ((show (some (.int .u16) : Option Ty) = Go.SL.A.D.ty 65 by kernel_rfl).trans ht)
  replace h : ∃ (t : Ty) (x : t.I) (avs' : List AV), Go.SL.A.D.ty 5 = some t ∧ avs = ⟨t, x⟩ :: avs' ∧ argsOk Go.SL.A.D [] 0 avs' bls := h
  obtain ⟨t, x2, avs, ht, rfl, h⟩ := h
  obtain rfl : .int .u8 = t := Option.some.inj ((show (some (.int .u8) : Option Ty) = Go.SL.A.D.ty 5 by kernel_rfl).trans ht)
  obtain ⟨rfl, rfl⟩ : avs = [] ∧ bls = [] := h
  have q := (Go.SL.A.snd15 15 Go.SL.A.sp15 rfl).2 [⟨.arr 8 (.int .i64), x0⟩, ⟨.int .u16, x1⟩, ⟨.int .u8, x2⟩] [] _ rfl (trivial)
  exact q

theorem lifted (os : Os) (started : os.Started) (H : Type) (enc : TypeId × Value → H) :
    ReturnsInHanded {} Go.Proofs.Try.checked os 15 .any (Rows.giveLouderSpec.pre6 enc Go.Proofs.Try.prog Go.Proofs.Try.f15 Rows.giveLouderRow.domain false) (Rows.giveLouderSpec.post enc Go.Proofs.Try.prog Go.Proofs.Try.f15 false true false false) := by
  refine returnsInHanded_of_change (C := Go.Proofs.Try.checked) Seat.own started (by kernel_rfl) Go.Proofs.Try.func15
    (ChangeSpec.witness6 (enc := enc) (C := Go.Proofs.Try.checked) false ⟨#[], #[.agg (Array.replicate 8 (.int .i64 0)), .int .u16 0, .int .u8 0], []⟩ 8 (by kernel_rfl) (by kernel_rfl) (by kernel_rfl) (by kernel_rfl)) ?_
  intro W base args ds gs before hval hW _ _
  refine law_calls (D := Go.SL.A.D) Go.SL.A.good Seat.kids Seat.slicesFull (fun t ht => Nat.le_of_ble_eq_true (List.all_eq_true.1 parsT t ht)) (by kernel_rfl) (show Go.Proofs.Try.f15.resultTypes = #[4] by kernel_rfl) Go.Proofs.Try.underlying4 rfl (fun ds h => ?_) law_pure (fun _ _ h => by cases (show none = some _ from h)) hval hW
  have h : ds.length = 3 := h
  match ds, h with
  | [_, _, _], _ => rfl

theorem joined : joinedFacts Go.Proofs.Try.prog 15 Go.Proofs.Try.f15 Rows.giveLouderSpec Rows.giveLouderRow = true := by
  unfold joinedFacts
  exact (andT (andT (andT (andT (andT (andT (andT (andT (andT (andT (andT (andT (andT (andT (andT (andT (andT (andT (andT (andT (andT (andT (andT (andT (andT (andT (andT (andT (andT (andT (andT (by as_aux_lemma => kernel_rfl) Seat.laidOut) Seat.mapsRowed) (by as_aux_lemma => kernel_rfl)) (by as_aux_lemma => kernel_rfl)) (by as_aux_lemma => kernel_rfl)) Seat.stops) (by as_aux_lemma => kernel_rfl)) Seat.knobs) (by as_aux_lemma => kernel_rfl)) (by as_aux_lemma => kernel_rfl)) (by as_aux_lemma => kernel_rfl)) (by as_aux_lemma => kernel_rfl)) (by as_aux_lemma => kernel_rfl)) (by as_aux_lemma => kernel_rfl)) (by as_aux_lemma => kernel_rfl)) (by as_aux_lemma => kernel_rfl)) (by as_aux_lemma => kernel_rfl)) (by as_aux_lemma => kernel_rfl)) (by as_aux_lemma => kernel_rfl)) (by as_aux_lemma => kernel_rfl)) (by as_aux_lemma => kernel_rfl)) (by as_aux_lemma => kernel_rfl)) (by as_aux_lemma => kernel_rfl)) Seat.heard) Seat.mayEnter) (by rw [Seat.lifts]; rfl)) (by rw [Seat.made]; rfl)) (by as_aux_lemma => kernel_rfl)) (by as_aux_lemma => kernel_rfl)) (by as_aux_lemma => kernel_rfl)) (by as_aux_lemma => kernel_rfl))

theorem giveLouder_holds : Rows.GiveLouderSaid :=
  OpenClaim.holds_of_wide 15 Go.Proofs.Try.f15 rfl rfl rfl rfl rfl rfl rfl ⟨rfl, rfl, rfl, rfl, rfl⟩ rfl rfl rfl rfl rfl (by kernel_rfl) Go.Proofs.Try.func15 joined
    (of_decide_eq_true (by kernel_rfl)) (by unfold Func.isWrapper; first | (rw [if_pos (by decide +kernel)]; kernel_rfl) | (rw [if_neg (by decide +kernel)]; exact ⟨rfl, rfl⟩))
    (fun os started H enc _ => lifted os started H enc)

#print axioms giveLouder_holds
end Go.Proofs.Ythhfccnhkadkcaa
