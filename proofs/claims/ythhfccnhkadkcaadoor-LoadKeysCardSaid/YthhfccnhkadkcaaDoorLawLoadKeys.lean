/- LoadKeys returns true, whatever its arguments, which read afterwards as before: no condition but that the package-level table holds what the program's text lays (tied by the card). -/
import Derived.Test.YthhfccnhkadkcaaDoorRows
import Derived.Test.YthhfccnhkadkcaaDoorCards
import Derived.Test.YthhfccnhkadkcaaDoorTie
import Derived.Test.YthhfccnhkadkcaaDoorLoad
import Derived.Test.YthhfccnhkadkcaaDoorKb
import Derived.Test.YthhfccnhkadkcaaDoorT

/- Functions and what they are held to do: bound to their code. -/
namespace Go.SL.A
open Go Go.SL Go.SL.S
set_option maxRecDepth 100000
noncomputable def Cd12 : Ctx := ⟨Go.Proofs.Tryd.prog, D, Gd32, (fun _ _ => none), fun _ => []⟩
def annd12 (k _q : List Int) (p : Int) : Nat → St → Option Ann := fun _ _ => some ⟨Nat, [2, 3, 4, 7, 8, 9], [0, 1, 2], fun i => [(10, .v (.int .i64) (i : Int))], fun i => [(3, some ⟨false, true, .arr 127 (.int .i64), [(votK (layW k (p % 281474976710656))).take i ++ (List.replicate 127 0).drop i]⟩)], fun i => i ≤ 127, fun i => 127 - i⟩
def outd12 (_k _q : List Int) (_p : Int) : COut := ⟨[], .v .bool true, [], []⟩
def spd12 : Spec := fun args ins => match args, ins with
  | [⟨.arr 16 (.int .u8), k⟩, ⟨.arr 16 (.int .u8), q⟩, ⟨.int .i64, p⟩], [] => some (outd12 k q p)
  | _, _ => none
def Gd12 := addG Gd32 12 spd12
def Pd12 (k q : List Int) (p : Int) : Prop :=
  ∃ (x : Nat), ((iand IntKind.i64 p (281474976710655 : Int) = iand IntKind.i64 p (281474976710655 : Int) ∧ (0 : Nat) = (0 : Nat) ∧ (0 : Nat) = (0 : Nat) ∧ (0 : Nat) = (0 : Nat) ∧ layE (iand IntKind.i64 p (281474976710655 :
  Int)) = layE (iand IntKind.i64 p (281474976710655 : Int)) ∧ (0 : Nat) = (0 : Nat) ∧ (0 : Int) = (↑x : Int) ∧ k = k ∧ false = false ∧ q = q ∧ false = false ∧ layW k (iand IntKind.i64 p (281474976710655 : Int)) = layW k
  (iand IntKind.i64 p (281474976710655 : Int)) ∧ false = false ∧ (0 : Int) :: List.replicate (nat_lit 126) (0 : Int) = List.take x (votK (layW k (p % (281474976710656 : Int)))) ++ List.drop x (List.replicate (127 : Nat) (0
  : Int)) ∧ false = false) ∧ x ≤ (127 : Nat)) ∧ ∀ (x : Nat), x ≤ (127 : Nat) → (IntKind.min IntKind.i64 ≤ (↑x : Int) ∧ (↑x : Int) ≤ IntKind.max IntKind.i64 ∧ ∀ (y : List Int), List.Mem y [List.take x (votK (layW k (p %
  (281474976710656 : Int)))) ++ List.drop x (List.replicate (127 : Nat) (0 : Int))] → List.length y = (127 : Nat) ∧ ∀ (y_1 : Int), List.Mem y_1 y → IntKind.min IntKind.i64 ≤ y_1 ∧ y_1 ≤ IntKind.max IntKind.i64) → bif decide
  ((↑x : Int) < (127 : Int)) then (((0 : Int) ≤ (↑x : Int) ∧ (↑x : Int) < (↑(127 : Nat) : Int)) ∧ Int.toNat (↑x : Int) < (127 : Nat)) ∧ (((0 : Int) ≤ (↑x : Int) ∧ (↑x : Int) < (↑(127 : Nat) : Int)) ∧ Int.toNat (↑x : Int) <
  (127 : Nat)) ∧ bif List.getD (layW k (iand IntKind.i64 p (281474976710655 : Int))) (Int.toNat (↑x : Int)) false then (((0 : Int) ≤ (↑x : Int) ∧ (↑x : Int) < (↑(127 : Nat) : Int)) ∧ Int.toNat (↑x : Int) < (127 : Nat)) ∧ ∃
  (y : Nat), (iand IntKind.i64 p (281474976710655 : Int) = iand IntKind.i64 p (281474976710655 : Int) ∧ (0 : Nat) = (0 : Nat) ∧ (0 : Nat) = (0 : Nat) ∧ (0 : Nat) = (0 : Nat) ∧ layE (iand IntKind.i64 p (281474976710655 :
  Int)) = layE (iand IntKind.i64 p (281474976710655 : Int)) ∧ (0 : Nat) = (0 : Nat) ∧ IntKind.wrap IntKind.i64 ((↑x : Int) + (1 : Int)) = (↑y : Int) ∧ k = k ∧ false = false ∧ q = q ∧ false = false ∧ layW k (iand IntKind.i64
  p (281474976710655 : Int)) = layW k (iand IntKind.i64 p (281474976710655 : Int)) ∧ false = false ∧ List.set (List.set (List.take x (votK (layW k (p % (281474976710656 : Int)))) ++ List.drop x (List.replicate (127 : Nat)
  (0 : Int))) (Int.toNat (↑x : Int)) (1 : Int)) (Int.toNat (↑x : Int)) (-1 : Int) = List.take y (votK (layW k (p % (281474976710656 : Int)))) ++ List.drop y (List.replicate (127 : Nat) (0 : Int)) ∧ false = false) ∧ y ≤ (127
  : Nat) ∧ (127 : Nat) - y < (127 : Nat) - x else ∃ (y : Nat), (iand IntKind.i64 p (281474976710655 : Int) = iand IntKind.i64 p (281474976710655 : Int) ∧ (0 : Nat) = (0 : Nat) ∧ (0 : Nat) = (0 : Nat) ∧ (0 : Nat) = (0 : Nat)
  ∧ layE (iand IntKind.i64 p (281474976710655 : Int)) = layE (iand IntKind.i64 p (281474976710655 : Int)) ∧ (0 : Nat) = (0 : Nat) ∧ IntKind.wrap IntKind.i64 ((↑x : Int) + (1 : Int)) = (↑y : Int) ∧ k = k ∧ false = false ∧ q
  = q ∧ false = false ∧ layW k (iand IntKind.i64 p (281474976710655 : Int)) = layW k (iand IntKind.i64 p (281474976710655 : Int)) ∧ false = false ∧ List.set (List.take x (votK (layW k (p % (281474976710656 : Int)))) ++
  List.drop x (List.replicate (127 : Nat) (0 : Int))) (Int.toNat (↑x : Int)) (1 : Int) = List.take y (votK (layW k (p % (281474976710656 : Int)))) ++ List.drop y (List.replicate (127 : Nat) (0 : Int)) ∧ false = false) ∧ y ≤
  (127 : Nat) ∧ (127 : Nat) - y < (127 : Nat) - x else bif decide (chkF k (iand IntKind.i64 p (281474976710655 : Int)) = chkF q (iand IntKind.i64 p (281474976710655 : Int))) then ∀ (b : Bool), decide (layE (iand IntKind.i64
  p (281474976710655 : Int)) = (0 : Int)) = b → ∀ (b_1 : Bool), (bif b then decide (takeE q (List.take x (votK (layW k (p % (281474976710656 : Int)))) ++ List.drop x (List.replicate (127 : Nat) (0 : Int))) = (0 : Int)) else
  false) = b_1 → ((b = true → b = true) ∧ (b = true → b = true) ∧ (b_1 = true → b_1 = true ∧ b_1 = true) ∧ (b_1 = true → b_1 = true)) ∧ (bif b_1 then decide (takeI q (List.take x (votK (layW k (p % (281474976710656 :
  Int)))) ++ List.drop x (List.replicate (127 : Nat) (0 : Int))) = iand IntKind.i64 p (281474976710655 : Int)) else false) = true else ∀ (b : Bool), decide (layE (iand IntKind.i64 p (281474976710655 : Int)) = (0 : Int)) = b
  → ∀ (b_1 : Bool), (bif b then decide (takeE q (List.take x (votK (layW k (p % (281474976710656 : Int)))) ++ List.drop x (List.replicate (127 : Nat) (0 : Int))) = (6 : Int)) else false) = b_1 → ((b = true → b = true) ∧ (b
  = true → b = true) ∧ (b_1 = true → b_1 = true) ∧ (b_1 = true → b_1 = true)) ∧ (bif b_1 then decide (takeI q (List.take x (votK (layW k (p % (281474976710656 : Int)))) ++ List.drop x (List.replicate (127 : Nat) (0 : Int)))
  = (0 : Int)) else false) = true
theorem vcd12 (k q : List Int) (p : Int) : Pd12 k q p = vcFun Cd12 (annd12 k q p) Go.Proofs.Tryd.f12 [⟨.arr 16 (.int .u8), k⟩, ⟨.arr 16 (.int .u8), q⟩, ⟨.int .i64, p⟩] [] (outd12 k q p) := by kernel_rfl

end Go.SL.A

/- LoadKeys' condition. -/
namespace Go.SL.A
open Go Go.SL Go.SL.S
set_option maxRecDepth 100000

theorem pured12 (k q : List Int) (p : Int) : Pd12 k q p := by
  unfold Pd12
  simp only [eq_self, true_and, and_true, Int.toNat_natCast, iand48']
  have hp := mod48 p
  generalize p % 281474976710656 = p at *
  have hB := may_of hp
  have eW : layW k p = encF (numP k p) := by unfold layW; rw [hB]; rfl
  have eE : layE p = 0 := by unfold layE; rw [hB]; rfl
  have eK : chkF k p = sumP k p := by unfold chkF; rw [hB]; rfl
  have eQ : chkF q p = sumP q p := by unfold chkF; rw [hB]; rfl
  rw [eW, eE, eK, eQ]
  obtain ⟨hn, -, -⟩ := num_back (k := k) hp
  have hl := enc_len (numP k p)
  obtain ⟨d1, d2⟩ := votK_take hl
  have hfar : far6 (encF (numP k p)) w127 (encF (numP k p)) ≤ 20 := by
    rw [self_far', cn_none (p := bw w127) fun i hi => w127_bw hi]; decide
  obtain ⟨a1, a2⟩ := am_enc hn hfar
  have vl := votK_len (encF (numP k p))
  have va : ∀ i, i < 127 → (votK (encF (numP k p))).getD i 0 = if bw (encF (numP k p)) i then -1 else 1 := fun i hi => votK_at _ hi
  have ht := take_num (k := q) (v := votK (encF (numP k p))) hp k (by rw [d1, d2]; exact a2) (by rw [d1, d2]; exact a1)
  generalize votK (encF (numP k p)) = v at *
  generalize encF (numP k p) = w at *
  refine ⟨0, ⟨⟨rfl, rfl⟩, by omega⟩, fun i hi hw => ?_⟩
  clear hw
  have hrl := row_len vl hi
  by_cases h : (i : Int) < 127
  · have hi2 : i < 127 := by omega
    have hv := va i hi2
    have hb : w.getD i false = bw w i := rfl
    rw [decide_eq_true h, cond_true, hb, set_set]
    refine ⟨⟨⟨by omega, by omega⟩, by omega⟩, ⟨⟨by omega, by omega⟩, by omega⟩, ?_⟩
    cases hh : bw w i with
    | true =>
      rw [hh, if_pos rfl] at hv
      rw [cond_true]
      exact ⟨⟨⟨by omega, by omega⟩, by omega⟩, i + 1, ⟨step_i (by omega), row_step vl hi2 hv⟩, by omega, by omega⟩
    | false =>
      rw [hh, if_neg (by simp)] at hv
      rw [cond_false]
      exact ⟨i + 1, ⟨step_i (by omega), row_step vl hi2 hv⟩, by omega, by omega⟩
  · have : i = 127 := by omega
    subst this
    rw [decide_eq_false h, cond_false, row_end vl]
    by_cases hs : sumP k p = sumP q p
    · obtain ⟨t1, t2⟩ := ht.1 hs
      rw [decide_eq_true hs, cond_true, t1, t2]
      rintro _ rfl _ rfl
      simp
    · obtain ⟨t1, t2⟩ := ht.2 hs
      rw [decide_eq_false hs, cond_false, t1, t2]
      rintro _ rfl _ rfl
      simp
end Go.SL.A

/- Functions do what they are held to do. -/
namespace Go.SL.A
open Go Go.SL Go.SL.S
theorem sndd12 : Sound Go.Proofs.Tryd.prog Gd12 := sndd32.add ⟨_, Go.Proofs.Tryd.func12, by kernel_rfl, by kernel_rfl⟩ (by
  intro args ins out h hp
  unfold spd12 at h
  split at h
  · rename_i k q p
    cases h
    exact vcFun_ok (C := Cd12) good sndd32 Meth.none mix Go.Proofs.Tryd.func12 (annd12 k q p) (fun hw => by rw [← vcd12 k q p]; exact pured12 k q p)
  · cases h)

end Go.SL.A

/- LoadKeys: the law returns true, whatever its arguments; each argument reads afterwards as before. No condition. -/
namespace Go.Proofs.YthhfccnhkadkcaaDoor
open Go Go.SL Go.SL.S Go.ChangeShapes Go.WideShapes Go.ChangeAt Go.WideMaps Go.WideElems Go.RowKit
set_option maxRecDepth 100000

theorem parsT : ((Go.Proofs.Tryd.f12.params.toList).all fun t => Nat.blt t Go.Proofs.Tryd.prog.types.size) = true := by kernel_rfl
theorem parsL : Go.Proofs.Tryd.f12.params.toList = [23, 23, 3] := by kernel_rfl
theorem law_pure : ∀ avs bls, argsOk Go.SL.A.D Go.Proofs.Tryd.f12.params.toList 0 avs bls → VCall Go.Proofs.Tryd.prog 12 avs bls ⟨[], .v .bool true, [], []⟩ := by
  rw [parsL]
  intro avs bls h
  replace h : ∃ (t : Ty) (x : t.I) (avs' : List AV), Go.SL.A.D.ty 23 = some t ∧ avs = ⟨t, x⟩ :: avs' ∧ argsOk Go.SL.A.D [23, 3] 0 avs' bls := h
  obtain ⟨t, x0, avs, ht, rfl, h⟩ := h
  obtain rfl : .arr 16 (.int .u8) = t := Option.some.inj ((show (some (.arr 16 (.int .u8)) : Option Ty) = Go.SL.A.D.ty 23 by kernel_rfl).trans ht)
  replace h : ∃ (t : Ty) (x : t.I) (avs' : List AV), Go.SL.A.D.ty 23 = some t ∧ avs = ⟨t, x⟩ :: avs' ∧ argsOk Go.SL.A.D [3] 0 avs' bls := h
  obtain ⟨t, x1, avs, ht, rfl, h⟩ := h
  obtain rfl : .arr 16 (.int .u8) = t := Option.some.inj ((show (some (.arr 16 (.int .u8)) : Option Ty) = Go.SL.A.D.ty 23 by kernel_rfl).trans ht)
  replace h : ∃ (t : Ty) (x : t.I) (avs' : List AV), Go.SL.A.D.ty 3 = some t ∧ avs = ⟨t, x⟩ :: avs' ∧ argsOk Go.SL.A.D [] 0 avs' bls := h
  obtain ⟨t, x2, avs, ht, rfl, h⟩ := h
  obtain rfl : .int .i64 = t := Option.some.inj ((show (some (.int .i64) : Option Ty) = Go.SL.A.D.ty 3 by kernel_rfl).trans ht)
  obtain ⟨rfl, rfl⟩ : avs = [] ∧ bls = [] := h
  have q := (Go.SL.A.sndd12 12 Go.SL.A.spd12 rfl).2 [⟨.arr 16 (.int .u8), x0⟩, ⟨.arr 16 (.int .u8), x1⟩, ⟨.int .i64, x2⟩] [] _ rfl (trivial)
  exact q

abbrev laidL : List (String × DataW Unit) := [("belfry/sip.signs", Rows.laid_belfry_sip_signs)]
theorem lifted (os : Os) (started : os.Started) (H : Type) (enc : TypeId × Value → H) :
    ReturnsInHanded {} Go.Proofs.Tryd.checked os 12 .any (fun w args => (Rows.loadKeysSpec.pre enc Go.Proofs.Tryd.prog Go.Proofs.Tryd.f12 [] false w args ∧ laidMetH Go.Proofs.Tryd.prog laidL w) ∧ sizedMet enc Go.Proofs.Tryd.prog Go.Proofs.Tryd.f12 (OpenSpec.ofChange Rows.loadKeysSpec) false w args) (Rows.loadKeysSpec.post enc Go.Proofs.Tryd.prog Go.Proofs.Tryd.f12 false true false false) := by
  refine returnsInHanded_of_change_and (C := Go.Proofs.Tryd.checked) (X := fun w _ => laidMetH Go.Proofs.Tryd.prog laidL w) (fun _ _ _ hh h => h.of_heap hh) Seat.own started (by kernel_rfl) Go.Proofs.Tryd.func12
    (ChangeSpec.witness_at (enc := enc) (C := Go.Proofs.Tryd.checked) (os := os) (X := fun w _ => laidMetH Go.Proofs.Tryd.prog laidL w) false (Seat.laidWorld os) #[.agg (Array.replicate 16 (.int .u8 0)), .agg (Array.replicate 16 (.int .u8 0)), .int .i64 0] 8 rfl (by kernel_rfl) (by kernel_rfl) (by kernel_rfl) (by kernel_rfl) (by kernel_rfl) (Seat.laidWorld_met os _)) ?_
  intro W base args ds gs before hval hW _ _ hL _
  refine law_calls (D := Go.SL.A.D) Go.SL.A.good Seat.kids Seat.slicesFull (fun t ht => Nat.le_of_ble_eq_true (List.all_eq_true.1 parsT t ht)) (by kernel_rfl) (show Go.Proofs.Tryd.f12.resultTypes = #[4] by kernel_rfl) Go.Proofs.Tryd.underlying4 rfl (fun ds h => ?_) law_pure (fun g a hg => Seat.signs_gl hL g a hg) hval hW
  have h : ds.length = 3 := h
  match ds, h with
  | [_, _, _], _ => rfl

theorem joined : joinedFacts Go.Proofs.Tryd.prog 12 Go.Proofs.Tryd.f12 Rows.loadKeysSpec Rows.loadKeysRow = true := by
  unfold joinedFacts
  exact (andT (andT (andT (andT (andT (andT (andT (andT (andT (andT (andT (andT (andT (andT (andT (andT (andT (andT (andT (andT (andT (andT (andT (andT (andT (andT (andT (andT (andT (andT (andT (by as_aux_lemma => kernel_rfl) Seat.laidOut) Seat.mapsRowed) (by as_aux_lemma => kernel_rfl)) (by as_aux_lemma => kernel_rfl)) (by as_aux_lemma => kernel_rfl)) Seat.stops) (by as_aux_lemma => kernel_rfl)) Seat.knobs) (by as_aux_lemma => kernel_rfl)) (by as_aux_lemma => kernel_rfl)) (by as_aux_lemma => kernel_rfl)) (by as_aux_lemma => kernel_rfl)) (by as_aux_lemma => kernel_rfl)) (by as_aux_lemma => kernel_rfl)) (by as_aux_lemma => kernel_rfl)) (by as_aux_lemma => kernel_rfl)) (by as_aux_lemma => kernel_rfl)) (by as_aux_lemma => kernel_rfl)) (by as_aux_lemma => kernel_rfl)) (by as_aux_lemma => kernel_rfl)) (by as_aux_lemma => kernel_rfl)) (by as_aux_lemma => kernel_rfl)) (by as_aux_lemma => kernel_rfl)) Seat.heard) Seat.mayEnter) (by rw [Seat.lifts]; rfl)) (by rw [Seat.made]; rfl)) (by as_aux_lemma => kernel_rfl)) (by as_aux_lemma => kernel_rfl)) (by as_aux_lemma => kernel_rfl)) (by as_aux_lemma => kernel_rfl))

theorem loadKeys_holds : Rows.LoadKeysSaid :=
  OpenClaim.holds_of_wide 12 Go.Proofs.Tryd.f12 rfl rfl rfl rfl rfl rfl rfl ⟨rfl, rfl, rfl, rfl, rfl⟩ rfl rfl rfl rfl rfl (by kernel_rfl) Go.Proofs.Tryd.func12 joined
    (of_decide_eq_true (by kernel_rfl)) (by unfold Func.isWrapper; first | (rw [if_pos (by decide +kernel)]; kernel_rfl) | (rw [if_neg (by decide +kernel)]; exact ⟨rfl, rfl⟩))
    (fun os started H enc _ => lifted os started H enc)

theorem noStand : ((Go.Proofs.Tryd.f12.params.toList).all fun t => !Go.Proofs.Tryd.prog.wantsStandIn t) = true := by kernel_rfl
theorem loadKeysCard_holds : Rows.LoadKeysCardSaid :=
  Claim7.holds_tied_plain_at .later [] [.data] true (true, "c88e0687c222961115da2a84d0fc17cee095a0dd0289832c0327b0b27169c1bb") true
    loadKeys_holds (fun _ h => by cases h) (by kernel_rfl) (fun _ h => by cases h) loadKeys_row_tie rfl ⟨rfl, rfl⟩ (by kernel_rfl) rfl
    (fun f fn hf hfn => by
      obtain rfl : f = 12 := Option.some.inj (hf.symm.trans (by kernel_rfl))
      obtain rfl : fn = Go.Proofs.Tryd.f12 := Option.some.inj (hfn.symm.trans Go.Proofs.Tryd.func12)
      refine ⟨by kernel_rfl, fun j t ht => ?_⟩
      have hm := List.all_eq_true.1 noStand t (List.mem_of_getElem? (by rw [Array.getElem?_toList]; exact ht))
      exact (show Go.Proofs.Tryd.prog.wantsStandIn t = false by simpa using hm))
    (by kernel_rfl)

#print axioms loadKeysCard_holds
end Go.Proofs.YthhfccnhkadkcaaDoor
