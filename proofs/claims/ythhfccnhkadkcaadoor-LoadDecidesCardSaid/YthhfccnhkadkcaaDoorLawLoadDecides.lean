/- LoadDecides returns true, whatever its arguments, which read afterwards as before: no condition but that the package-level table holds what the program's text lays (tied by the card). -/
import Derived.Test.YthhfccnhkadkcaaDoorRows
import Derived.Test.YthhfccnhkadkcaaDoorCards
import Derived.Test.YthhfccnhkadkcaaDoorTie
import Derived.Test.YthhfccnhkadkcaaDoorLoad
import Derived.Test.YthhfccnhkadkcaaDoorKb
import Derived.Test.YthhfccnhkadkcaaDoorT

/- Functions and what they are held to do: bound to their code. -/
namespace Go.SL.A
open Go Go.SL Go.SL.S
set_option maxRecDepth 100000
noncomputable def Cd11 : Ctx := ⟨Go.Proofs.Tryd.prog, D, Gd32, (fun _ _ => none), fun _ => []⟩
def annd11 (_k v : List Int) : Nat → St → Option Ann := fun _ _ => some ⟨Nat, [2, 3, 5, 6, 7], [0, 1, 2, 3], fun i => [(8, .v (.int .i64) (i : Int))], fun i => [(4, some ⟨false, true, .arr 127 (.int .i64), [(signV v).take i ++ (List.replicate 127 0).drop i]⟩)], fun i => i ≤ 127, fun i => 127 - i⟩
def outd11 (_k _v : List Int) : COut := ⟨[], .v .bool true, [], []⟩
def spd11 : Spec := fun args ins => match args, ins with
  | [⟨.arr 16 (.int .u8), k⟩, ⟨.arr 127 (.int .i64), v⟩], [] => some (outd11 k v)
  | _, _ => none
def Gd11 := addG Gd32 11 spd11
def Pd11 (k v : List Int) : Prop :=
  ∃ (x : Nat), (((0 : Nat) = (0 : Nat) ∧ (0 : Nat) = (0 : Nat) ∧ (0 : Nat) = (0 : Nat) ∧ (0 : Nat) = (0 : Nat) ∧ (0 : Nat) = (0 : Nat) ∧ (0 : Int) = (↑x : Int) ∧ k = k ∧ false = false ∧ v = v ∧ false = false ∧ decW v = decW
  v ∧ false = false ∧ decH v = decH v ∧ false = false ∧ (0 : Int) :: List.replicate (nat_lit 126) (0 : Int) = List.take x (signV v) ++ List.drop x (List.replicate (127 : Nat) (0 : Int)) ∧ false = false) ∧ x ≤ (127 : Nat)) ∧
  ∀ (x : Nat), x ≤ (127 : Nat) → (IntKind.min IntKind.i64 ≤ (↑x : Int) ∧ (↑x : Int) ≤ IntKind.max IntKind.i64 ∧ ∀ (y : List Int), List.Mem y [List.take x (signV v) ++ List.drop x (List.replicate (127 : Nat) (0 : Int))] →
  List.length y = (127 : Nat) ∧ ∀ (y_1 : Int), List.Mem y_1 y → IntKind.min IntKind.i64 ≤ y_1 ∧ y_1 ≤ IntKind.max IntKind.i64) → bif decide ((↑x : Int) < (127 : Int)) then ∀ (b : Bool), (!List.getD (decW v) (Int.toNat (↑x :
  Int)) false == decide (List.getD v (Int.toNat (↑x : Int)) (0 : Int) < (0 : Int))) = b → (((0 : Int) ≤ (↑x : Int) ∧ (↑x : Int) < (↑(127 : Nat) : Int)) ∧ Int.toNat (↑x : Int) < (127 : Nat) ∧ ((0 : Int) ≤ (↑x : Int) ∧ (↑x :
  Int) < (↑(127 : Nat) : Int)) ∧ Int.toNat (↑x : Int) < (127 : Nat) ∧ ((!b) = true → (!b) = true ∧ (0 : Int) ≤ (↑x : Int) ∧ (↑x : Int) < (↑(127 : Nat) : Int)) ∧ ((!b) = true → (!b) = true ∧ Int.toNat (↑x : Int) < (127 :
  Nat)) ∧ ((!b) = true → (!b) = true ∧ (0 : Int) ≤ (↑x : Int) ∧ (↑x : Int) < (↑(127 : Nat) : Int)) ∧ ((!b) = true → (!b) = true ∧ Int.toNat (↑x : Int) < (127 : Nat)) ∧ ((!b) = true → (!b) = true) ∧ ((!b) = true → (!b) =
  true ∧ (!b) = true) ∧ (b = false → (!b) = true)) ∧ bif bif b then true else !List.getD (decH v) (Int.toNat (↑x : Int)) false == decide (List.getD v (Int.toNat (↑x : Int)) (0 : Int) = (0 : Int)) then false = true else (((0
  : Int) ≤ (↑x : Int) ∧ (↑x : Int) < (↑(127 : Nat) : Int)) ∧ Int.toNat (↑x : Int) < (127 : Nat)) ∧ bif decide ((0 : Int) < List.getD v (Int.toNat (↑x : Int)) (0 : Int)) then (((0 : Int) ≤ (↑x : Int) ∧ (↑x : Int) < (↑(127 :
  Nat) : Int)) ∧ Int.toNat (↑x : Int) < (127 : Nat)) ∧ (((0 : Int) ≤ (↑x : Int) ∧ (↑x : Int) < (↑(127 : Nat) : Int)) ∧ Int.toNat (↑x : Int) < (127 : Nat)) ∧ bif decide (List.getD v (Int.toNat (↑x : Int)) (0 : Int) < (0 :
  Int)) then (((0 : Int) ≤ (↑x : Int) ∧ (↑x : Int) < (↑(127 : Nat) : Int)) ∧ Int.toNat (↑x : Int) < (127 : Nat)) ∧ ∃ (y : Nat), ((0 : Nat) = (0 : Nat) ∧ (0 : Nat) = (0 : Nat) ∧ (0 : Nat) = (0 : Nat) ∧ (0 : Nat) = (0 : Nat)
  ∧ (0 : Nat) = (0 : Nat) ∧ IntKind.wrap IntKind.i64 ((↑x : Int) + (1 : Int)) = (↑y : Int) ∧ k = k ∧ false = false ∧ v = v ∧ false = false ∧ decW v = decW v ∧ false = false ∧ decH v = decH v ∧ false = false ∧ List.set
  (List.set (List.take x (signV v) ++ List.drop x (List.replicate (127 : Nat) (0 : Int))) (Int.toNat (↑x : Int)) (1 : Int)) (Int.toNat (↑x : Int)) (-1 : Int) = List.take y (signV v) ++ List.drop y (List.replicate (127 :
  Nat) (0 : Int)) ∧ false = false) ∧ y ≤ (127 : Nat) ∧ (127 : Nat) - y < (127 : Nat) - x else ∃ (y : Nat), ((0 : Nat) = (0 : Nat) ∧ (0 : Nat) = (0 : Nat) ∧ (0 : Nat) = (0 : Nat) ∧ (0 : Nat) = (0 : Nat) ∧ (0 : Nat) = (0 :
  Nat) ∧ IntKind.wrap IntKind.i64 ((↑x : Int) + (1 : Int)) = (↑y : Int) ∧ k = k ∧ false = false ∧ v = v ∧ false = false ∧ decW v = decW v ∧ false = false ∧ decH v = decH v ∧ false = false ∧ List.set (List.take x (signV v)
  ++ List.drop x (List.replicate (127 : Nat) (0 : Int))) (Int.toNat (↑x : Int)) (1 : Int) = List.take y (signV v) ++ List.drop y (List.replicate (127 : Nat) (0 : Int)) ∧ false = false) ∧ y ≤ (127 : Nat) ∧ (127 : Nat) - y <
  (127 : Nat) - x else (((0 : Int) ≤ (↑x : Int) ∧ (↑x : Int) < (↑(127 : Nat) : Int)) ∧ Int.toNat (↑x : Int) < (127 : Nat)) ∧ bif decide (List.getD v (Int.toNat (↑x : Int)) (0 : Int) < (0 : Int)) then (((0 : Int) ≤ (↑x :
  Int) ∧ (↑x : Int) < (↑(127 : Nat) : Int)) ∧ Int.toNat (↑x : Int) < (127 : Nat)) ∧ ∃ (y : Nat), ((0 : Nat) = (0 : Nat) ∧ (0 : Nat) = (0 : Nat) ∧ (0 : Nat) = (0 : Nat) ∧ (0 : Nat) = (0 : Nat) ∧ (0 : Nat) = (0 : Nat) ∧
  IntKind.wrap IntKind.i64 ((↑x : Int) + (1 : Int)) = (↑y : Int) ∧ k = k ∧ false = false ∧ v = v ∧ false = false ∧ decW v = decW v ∧ false = false ∧ decH v = decH v ∧ false = false ∧ List.set (List.take x (signV v) ++
  List.drop x (List.replicate (127 : Nat) (0 : Int))) (Int.toNat (↑x : Int)) (-1 : Int) = List.take y (signV v) ++ List.drop y (List.replicate (127 : Nat) (0 : Int)) ∧ false = false) ∧ y ≤ (127 : Nat) ∧ (127 : Nat) - y <
  (127 : Nat) - x else ∃ (y : Nat), ((0 : Nat) = (0 : Nat) ∧ (0 : Nat) = (0 : Nat) ∧ (0 : Nat) = (0 : Nat) ∧ (0 : Nat) = (0 : Nat) ∧ (0 : Nat) = (0 : Nat) ∧ IntKind.wrap IntKind.i64 ((↑x : Int) + (1 : Int)) = (↑y : Int) ∧ k
  = k ∧ false = false ∧ v = v ∧ false = false ∧ decW v = decW v ∧ false = false ∧ decH v = decH v ∧ false = false ∧ List.append (List.take x (signV v)) (List.drop x (List.replicate (127 : Nat) (0 : Int))) = List.take y
  (signV v) ++ List.drop y (List.replicate (127 : Nat) (0 : Int)) ∧ false = false) ∧ y ≤ (127 : Nat) ∧ (127 : Nat) - y < (127 : Nat) - x else ∀ (b : Bool), decide (takeI k v = takeI k (List.take x (signV v) ++ List.drop x
  (List.replicate (127 : Nat) (0 : Int)))) = b → bif bif b then decide (takeE k v = takeE k (List.take x (signV v) ++ List.drop x (List.replicate (127 : Nat) (0 : Int)))) else false then bif !decide (takeE k v = (0 : Int))
  then ((b = true → b = true ∧ b = true) ∧ (b = true → b = true) ∧ (true = false → false = true)) ∧ true = true else ((b = true → b = true ∧ b = true) ∧ (b = true → b = true) ∧ mayL (takeI k v) = true) ∧ decide (far6 (decW
  v) (decH v) (encF (IntKind.wrap IntKind.u64 (IntKind.wrap IntKind.u64 (takeI k v) + IntKind.wrap IntKind.u64 ((281474976710656 : Int) * IntKind.wrap IntKind.u64 (sumP k (takeI k v)))))) ≤ (20 : Int)) = true else ((b =
  true → b = true ∧ b = true) ∧ (b = true → b = true) ∧ (false = true → false = true)) ∧ false = true
theorem vcd11 (k v : List Int) : Pd11 k v = vcFun Cd11 (annd11 k v) Go.Proofs.Tryd.f11 [⟨.arr 16 (.int .u8), k⟩, ⟨.arr 127 (.int .i64), v⟩] [] (outd11 k v) := by kernel_rfl

end Go.SL.A

/- LoadDecides' condition. -/
namespace Go.SL.A
open Go Go.SL Go.SL.S
set_option maxRecDepth 100000

theorem hwd11 {k v : List Int} (hw : Go.SL.allP (List.flatMap (fun a : AV => a.t.wf a.x) [⟨.arr 16 (.int .u8), k⟩, ⟨.arr 127 (.int .i64), v⟩] ++ List.flatMap Blk.wf [])) : v.length = 127 := by
  simp only [List.flatMap_cons, List.flatMap_nil, Ty.wf, List.append_nil, List.cons_append, List.nil_append, Go.SL.allP] at hw
  exact hw.2.2.1
theorem pured11 (k v : List Int) (hl : v.length = 127) : Pd11 k v := by
  unfold Pd11
  simp only [eq_self, true_and, and_true, Int.toNat_natCast]
  obtain ⟨s1, s2⟩ := sign_same hl k
  have sl : (signV v).length = 127 := by rw [signV_len]; exact hl
  have sa : ∀ i, i < 127 → (signV v).getD i 0 = if v.getD i 0 < 0 then -1 else if 0 < v.getD i 0 then 1 else 0 := fun i hi => signV_at (by omega)
  generalize signV v = f at *
  refine ⟨0, ⟨⟨rfl, rfl⟩, by omega⟩, fun i hi hw => ?_⟩
  clear hw
  have hrl := row_len sl hi
  by_cases h : (i : Int) < 127
  · have hi2 : i < 127 := by omega
    have hv := sa i hi2
    have e1 : (decW v).getD i false = decide (v.getD i 0 < 0) := decW_bw (by omega)
    have e2 : (decH v).getD i false = decide (v.getD i 0 = 0) := decH_bw (by omega)
    rw [decide_eq_true h, cond_true, e1, e2, beq_self_eq_true, beq_self_eq_true, Bool.not_true]
    rintro _ rfl
    rw [set_set]
    refine ⟨by simp; omega, ?_⟩
    rw [cond_false, cond_false]
    refine ⟨⟨⟨by omega, by omega⟩, by omega⟩, ?_⟩
    by_cases h1 : v.getD i 0 < 0
    · rw [if_pos h1] at hv
      rw [decide_eq_false (show ¬ 0 < v.getD i 0 by omega), cond_false, decide_eq_true h1, cond_true]
      exact ⟨⟨⟨by omega, by omega⟩, by omega⟩, ⟨⟨by omega, by omega⟩, by omega⟩, i + 1, ⟨step_i (by omega), row_step sl hi2 hv⟩, by omega, by omega⟩
    · rw [if_neg h1] at hv
      by_cases h2 : 0 < v.getD i 0
      · rw [if_pos h2] at hv
        rw [decide_eq_true h2, cond_true, decide_eq_false h1, cond_false]
        exact ⟨⟨⟨by omega, by omega⟩, by omega⟩, ⟨⟨by omega, by omega⟩, by omega⟩, i + 1, ⟨step_i (by omega), row_step sl hi2 hv⟩, by omega, by omega⟩
      · rw [if_neg h2] at hv
        rw [decide_eq_false h2, cond_false, decide_eq_false h1, cond_false]
        exact ⟨⟨⟨by omega, by omega⟩, by omega⟩, i + 1, ⟨step_i (by omega), row_keep sl hi2 hv⟩, by omega, by omega⟩
  · have : i = 127 := by omega
    subst this
    rw [decide_eq_false h, cond_false, row_end sl, s1, s2]
    by_cases he : takeE k v = 0
    · obtain ⟨t1, t2, t3⟩ := take_ok he
      obtain ⟨-, -, hf⟩ := am_ok t1
      rw [t2] at hf
      have hm := may_iff t3
      have hs := sumP_fit k (takeI k v)
      have e3 : IntKind.u64.wrap (IntKind.u64.wrap (takeI k v) + IntKind.u64.wrap (281474976710656 * IntKind.u64.wrap (sumP k (takeI k v)))) = numP k (takeI k v) := by
        rw [w_u64 hs.1 (by omega), w_u64 (x := 281474976710656 * sumP k (takeI k v)) (by omega) (by omega), w_u64 hm.1 (by omega), w_u64 (by omega) (by omega)]
        unfold numP
        rw [Int.mul_comm]
      rw [e3, decide_eq_true hf, t3, he]
      rintro _ rfl
      simp
    · rw [decide_eq_false he]
      rintro _ rfl
      simp
end Go.SL.A

/- Functions do what they are held to do. -/
namespace Go.SL.A
open Go Go.SL Go.SL.S
theorem sndd11 : Sound Go.Proofs.Tryd.prog Gd11 := sndd32.add ⟨_, Go.Proofs.Tryd.func11, by kernel_rfl, by kernel_rfl⟩ (by
  intro args ins out h hp
  unfold spd11 at h
  split at h
  · rename_i k v
    cases h
    exact vcFun_ok (C := Cd11) good sndd32 Meth.none mix Go.Proofs.Tryd.func11 (annd11 k v) (fun hw => by rw [← vcd11 k v]; exact pured11 k v (hwd11 hw))
  · cases h)

end Go.SL.A

/- LoadDecides: the law returns true, whatever its arguments; each argument reads afterwards as before. No condition. -/
namespace Go.Proofs.YthhfccnhkadkcaaDoor
open Go Go.SL Go.SL.S Go.ChangeShapes Go.WideShapes Go.ChangeAt Go.WideMaps Go.WideElems Go.RowKit
set_option maxRecDepth 100000

theorem parsT : ((Go.Proofs.Tryd.f11.params.toList).all fun t => Nat.blt t Go.Proofs.Tryd.prog.types.size) = true := by kernel_rfl
theorem parsL : Go.Proofs.Tryd.f11.params.toList = [23, 60] := by kernel_rfl
theorem law_pure : ∀ avs bls, argsOk Go.SL.A.D Go.Proofs.Tryd.f11.params.toList 0 avs bls → VCall Go.Proofs.Tryd.prog 11 avs bls ⟨[], .v .bool true, [], []⟩ := by
  rw [parsL]
  intro avs bls h
  replace h : ∃ (t : Ty) (x : t.I) (avs' : List AV), Go.SL.A.D.ty 23 = some t ∧ avs = ⟨t, x⟩ :: avs' ∧ argsOk Go.SL.A.D [60] 0 avs' bls := h
  obtain ⟨t, x0, avs, ht, rfl, h⟩ := h
  obtain rfl : .arr 16 (.int .u8) = t := Option.some.inj ((show (some (.arr 16 (.int .u8)) : Option Ty) = Go.SL.A.D.ty 23 by kernel_rfl).trans ht)
  replace h : ∃ (t : Ty) (x : t.I) (avs' : List AV), Go.SL.A.D.ty 60 = some t ∧ avs = ⟨t, x⟩ :: avs' ∧ argsOk Go.SL.A.D [] 0 avs' bls := h
  obtain ⟨t, x1, avs, ht, rfl, h⟩ := h
  obtain rfl : .arr 127 (.int .i64) = t := Option.some.inj ((show (some (.arr 127 (.int .i64)) : Option Ty) = Go.SL.A.D.ty 60 by kernel_rfl).trans ht)
  obtain ⟨rfl, rfl⟩ : avs = [] ∧ bls = [] := h
  have q := (Go.SL.A.sndd11 11 Go.SL.A.spd11 rfl).2 [⟨.arr 16 (.int .u8), x0⟩, ⟨.arr 127 (.int .i64), x1⟩] [] _ rfl (trivial)
  exact q

abbrev laidL : List (String × DataW Unit) := [("belfry/sip.signs", Rows.laid_belfry_sip_signs)]
theorem lifted (os : Os) (started : os.Started) (H : Type) (enc : TypeId × Value → H) :
    ReturnsInHanded {} Go.Proofs.Tryd.checked os 11 .any (fun w args => (Rows.loadDecidesSpec.pre enc Go.Proofs.Tryd.prog Go.Proofs.Tryd.f11 [] false w args ∧ laidMetH Go.Proofs.Tryd.prog laidL w) ∧ sizedMet enc Go.Proofs.Tryd.prog Go.Proofs.Tryd.f11 (OpenSpec.ofChange Rows.loadDecidesSpec) false w args) (Rows.loadDecidesSpec.post enc Go.Proofs.Tryd.prog Go.Proofs.Tryd.f11 false true false false) := by
  refine returnsInHanded_of_change_and (C := Go.Proofs.Tryd.checked) (X := fun w _ => laidMetH Go.Proofs.Tryd.prog laidL w) (fun _ _ _ hh h => h.of_heap hh) Seat.own started (by kernel_rfl) Go.Proofs.Tryd.func11
    (ChangeSpec.witness_at (enc := enc) (C := Go.Proofs.Tryd.checked) (os := os) (X := fun w _ => laidMetH Go.Proofs.Tryd.prog laidL w) false (Seat.laidWorld os) #[.agg (Array.replicate 16 (.int .u8 0)), .agg (Array.replicate 127 (.int .i64 0))] 8 rfl (by kernel_rfl) (by kernel_rfl) (by kernel_rfl) (by kernel_rfl) (by kernel_rfl) (Seat.laidWorld_met os _)) ?_
  intro W base args ds gs before hval hW _ _ hL _
  refine law_calls (D := Go.SL.A.D) Go.SL.A.good Seat.kids Seat.slicesFull (fun t ht => Nat.le_of_ble_eq_true (List.all_eq_true.1 parsT t ht)) (by kernel_rfl) (show Go.Proofs.Tryd.f11.resultTypes = #[4] by kernel_rfl) Go.Proofs.Tryd.underlying4 rfl (fun ds h => ?_) law_pure (fun g a hg => Seat.signs_gl hL g a hg) hval hW
  have h : ds.length = 2 := h
  match ds, h with
  | [_, _], _ => rfl

theorem joined : joinedFacts Go.Proofs.Tryd.prog 11 Go.Proofs.Tryd.f11 Rows.loadDecidesSpec Rows.loadDecidesRow = true := by
  unfold joinedFacts
  exact (andT (andT (andT (andT (andT (andT (andT (andT (andT (andT (andT (andT (andT (andT (andT (andT (andT (andT (andT (andT (andT (andT (andT (andT (andT (andT (andT (andT (andT (andT (andT (by as_aux_lemma => kernel_rfl) Seat.laidOut) Seat.mapsRowed) (by as_aux_lemma => kernel_rfl)) (by as_aux_lemma => kernel_rfl)) (by as_aux_lemma => kernel_rfl)) Seat.stops) (by as_aux_lemma => kernel_rfl)) Seat.knobs) (by as_aux_lemma => kernel_rfl)) (by as_aux_lemma => kernel_rfl)) (by as_aux_lemma => kernel_rfl)) (by as_aux_lemma => kernel_rfl)) (by as_aux_lemma => kernel_rfl)) (by as_aux_lemma => kernel_rfl)) (by as_aux_lemma => kernel_rfl)) (by as_aux_lemma => kernel_rfl)) (by as_aux_lemma => kernel_rfl)) (by as_aux_lemma => kernel_rfl)) (by as_aux_lemma => kernel_rfl)) (by as_aux_lemma => kernel_rfl)) (by as_aux_lemma => kernel_rfl)) (by as_aux_lemma => kernel_rfl)) (by as_aux_lemma => kernel_rfl)) Seat.heard) Seat.mayEnter) (by rw [Seat.lifts]; rfl)) (by rw [Seat.made]; rfl)) (by as_aux_lemma => kernel_rfl)) (by as_aux_lemma => kernel_rfl)) (by as_aux_lemma => kernel_rfl)) (by as_aux_lemma => kernel_rfl))

theorem loadDecides_holds : Rows.LoadDecidesSaid :=
  OpenClaim.holds_of_wide 11 Go.Proofs.Tryd.f11 rfl rfl rfl rfl rfl rfl rfl ⟨rfl, rfl, rfl, rfl, rfl⟩ rfl rfl rfl rfl rfl (by kernel_rfl) Go.Proofs.Tryd.func11 joined
    (of_decide_eq_true (by kernel_rfl)) (by unfold Func.isWrapper; first | (rw [if_pos (by decide +kernel)]; kernel_rfl) | (rw [if_neg (by decide +kernel)]; exact ⟨rfl, rfl⟩))
    (fun os started H enc _ => lifted os started H enc)

theorem noStand : ((Go.Proofs.Tryd.f11.params.toList).all fun t => !Go.Proofs.Tryd.prog.wantsStandIn t) = true := by kernel_rfl
theorem loadDecidesCard_holds : Rows.LoadDecidesCardSaid :=
  Claim7.holds_tied_plain_at .later [] [.data] true (true, "c88e0687c222961115da2a84d0fc17cee095a0dd0289832c0327b0b27169c1bb") true
    loadDecides_holds (fun _ h => by cases h) (by kernel_rfl) (fun _ h => by cases h) loadDecides_row_tie rfl ⟨rfl, rfl⟩ (by kernel_rfl) rfl
    (fun f fn hf hfn => by
      obtain rfl : f = 11 := Option.some.inj (hf.symm.trans (by kernel_rfl))
      obtain rfl : fn = Go.Proofs.Tryd.f11 := Option.some.inj (hfn.symm.trans Go.Proofs.Tryd.func11)
      refine ⟨by kernel_rfl, fun j t ht => ?_⟩
      have hm := List.all_eq_true.1 noStand t (List.mem_of_getElem? (by rw [Array.getElem?_toList]; exact ht))
      exact (show Go.Proofs.Tryd.prog.wantsStandIn t = false by simpa using hm))
    (by kernel_rfl)

#print axioms loadDecidesCard_holds
end Go.Proofs.YthhfccnhkadkcaaDoor
