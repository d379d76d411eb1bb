/- PvqPlays returns true, whatever its arguments, which read afterwards as before: no condition. -/
import Derived.Test.YthhfccnhkadkcaaRows
import Derived.Test.YthhfccnhkadkcaaPvqR
import Derived.Test.YthhfccnhkadkcaaPvqB
import Derived.Test.YthhfccnhkadkcaaKb
import Derived.Test.YthhfccnhkadkcaaT

/- Functions and what they are held to do: bound to their code. -/
namespace Go.SL.A
open Go Go.SL Go.SL.S
set_option maxRecDepth 100000
noncomputable def C12 : Ctx := ⟨Go.Proofs.Try.prog, D, G49, (fun _ _ => none), fun _ => []⟩
def ann12 (n k i : Int) (m : Nat) (y : List Int) : Nat → St → Option Ann := fun id S => match id with | 0 => some ⟨Nat, [0, 1, 2, 3], [0], fun j => [(10, .v (.int .i64) (j : Int)), (9, .v (.int .i64) (min (sumSz (y.take j)) 13))], fun _ => [], fun j => j ≤ y.length, fun j => y.length - j⟩ | _ => some ⟨Nat × Int, [0, 1, 2, 14, 15], [0], fun x => [(16, .v (.int .i64) (x.1 : Int)), (17, .v (.int .i64) x.2)], fun _ => [], fun x => x.1 + bitLen x.2.toNat = bitLen (cnt 4 k.toNat - 1).toNat ∧ x.2 ≤ 10000000000, fun x => x.2.toNat⟩
def out12 (n k i : Int) (m : Nat) (y : List Int) : COut := ⟨[m = y.length], .v .bool true, [], []⟩
def sp12 : Spec := fun args ins => match args, ins with
  | [⟨.int .i64, n⟩, ⟨.int .i64, k⟩, ⟨.int .i64, i⟩, ⟨.ref .slice, .slice 0 (.int .i64) [] 0 m⟩], [⟨true, false, .int .i64, y⟩] => some (out12 n k i m y)
  | _, _ => none
def G12 := addG G49 12 sp12
def P12 (n k i : Int) (m : Nat) (y : List Int) : Prop :=
  ∀ (b : Bool), false = b → (((!b) = true → (!b) = true) ∧ ((!b) = true → (!b) = true) ∧ (b = false → (!b) = true)) ∧ bif bif b then true else decide ((40 : Int) < (↑m : Int)) then true = true ∧ y = y ∧ true = true else ∃
  (x : Nat), ((n = n ∧ k = k ∧ i = i ∧ (0 : Nat) = (0 : Nat) ∧ m = m ∧ (0 : Int) = min (sumSz (List.take x y)) (13 : Int) ∧ (0 : Int) = (↑x : Int) ∧ y = y ∧ true = true) ∧ x ≤ List.length y) ∧ ∀ (x : Nat), x ≤ List.length y
  → IntKind.min IntKind.i64 ≤ (↑x : Int) ∧ (↑x : Int) ≤ IntKind.max IntKind.i64 ∧ IntKind.min IntKind.i64 ≤ min (sumSz (List.take x y)) (13 : Int) ∧ min (sumSz (List.take x y)) (13 : Int) ≤ IntKind.max IntKind.i64 → bif
  decide ((↑x : Int) < (↑m : Int)) then ∀ (b : Bool), decide (List.getD y ((0 : Nat) + Int.toNat (↑x : Int)) (0 : Int) < (-12 : Int)) = b → (((0 : Int) ≤ (↑x : Int) ∧ (↑x : Int) < (↑m : Int)) ∧ (0 : Nat) + Int.toNat (↑x :
  Int) < List.length y ∧ ((!b) = true → (!b) = true ∧ (!b) = true ∧ (0 : Int) ≤ (↑x : Int) ∧ (↑x : Int) < (↑m : Int)) ∧ ((!b) = true → (!b) = true ∧ (0 : Nat) + Int.toNat (↑x : Int) < List.length y) ∧ ((!b) = true → (!b) =
  true) ∧ (b = false → (!b) = true)) ∧ bif bif b then true else decide ((12 : Int) < List.getD y ((0 : Nat) + Int.toNat (↑x : Int)) (0 : Int)) then (((0 : Int) ≤ (↑x : Int) ∧ (↑x : Int) < (↑m : Int)) ∧ (0 : Nat) + Int.toNat
  (↑x : Int) < List.length y ∧ (13 : Int) ≠ (0 : Int)) ∧ ∃ (y_1 : Nat), (n = n ∧ k = k ∧ i = i ∧ (0 : Nat) = (0 : Nat) ∧ m = m ∧ min (IntKind.wrap IntKind.i64 ((13 : Int) + szR (Int.tmod (List.getD y ((0 : Nat) + Int.toNat
  (↑x : Int)) (0 : Int)) (13 : Int)))) (13 : Int) = min (sumSz (List.take y_1 y)) (13 : Int) ∧ IntKind.wrap IntKind.i64 ((↑x : Int) + (1 : Int)) = (↑y_1 : Int) ∧ y = y ∧ true = true) ∧ y_1 ≤ List.length y ∧ List.length y -
  y_1 < List.length y - x else (((0 : Int) ≤ (↑x : Int) ∧ (↑x : Int) < (↑m : Int)) ∧ (0 : Nat) + Int.toNat (↑x : Int) < List.length y ∧ (13 : Int) ≠ (0 : Int)) ∧ ∃ (y_1 : Nat), (n = n ∧ k = k ∧ i = i ∧ (0 : Nat) = (0 : Nat)
  ∧ m = m ∧ min (IntKind.wrap IntKind.i64 (min (sumSz (List.take x y)) (13 : Int) + szR (Int.tmod (List.getD y ((0 : Nat) + Int.toNat (↑x : Int)) (0 : Int)) (13 : Int)))) (13 : Int) = min (sumSz (List.take y_1 y)) (13 :
  Int) ∧ IntKind.wrap IntKind.i64 ((↑x : Int) + (1 : Int)) = (↑y_1 : Int) ∧ y = y ∧ true = true) ∧ y_1 ≤ List.length y ∧ List.length y - y_1 < List.length y - x else bif decide ((8 : Int) < (↑m : Int)) then m = List.length
  y ∧ ∀ (b : Bool), (!decide (pulsesF y = (13 : Int))) = b → (m = List.length y ∧ ((!b) = true → (!b) = true) ∧ ((!b) = true → (!b) = true) ∧ ((!b) = true → (!b) = true ∧ (!b) = true) ∧ (b = false → (!b) = true)) ∧ bif bif
  b then true else !decide (Prod.snd (indexF y) = (7 : Int)) == true then false = true ∧ y = y ∧ true = true else ∀ (b : Bool), decide (n < (0 : Int)) = b → ∀ (b_1 : Bool), (bif b then true else decide ((8 : Int) < n)) =
  b_1 → ∀ (b_2 : Bool), (bif b_1 then true else decide (k < (0 : Int))) = b_2 → (((!b) = true → (!b) = true) ∧ (b = false → (!b) = true) ∧ ((!b_1) = true → (!b_1) = true) ∧ (b_1 = false → (!b_1) = true) ∧ ((!b_2) = true →
  (!b_2) = true) ∧ (b_2 = false → (!b_2) = true)) ∧ bif bif b_2 then true else decide ((12 : Int) < k) then bif decide (vecE n k i = (1 : Int)) then bif decide (countF n k = (0 : Int)) then bif decide ((0 : Int) ≤ k) then
  bif decide (k ≤ (12 : Int)) then (true = false → false = true) ∧ true = true ∧ y = y ∧ true = true else decide (bitsF k = (0 : Int)) = true ∧ y = y ∧ true = true else (false = true → false = true) ∧ decide (bitsF k = (0 :
  Int)) = true ∧ y = y ∧ true = true else (false = true → false = true) ∧ false = true ∧ y = y ∧ true = true else ((false = true → false = true) ∧ (false = true → false = true)) ∧ false = true ∧ y = y ∧ true = true else ((0
  : Int) ≤ n ∧ n ≤ (8 : Int) ∧ (0 : Int) ≤ k ∧ k ≤ (12 : Int)) ∧ ((0 : Int) ≤ (4 : Int) ∧ (4 : Int) ≤ (8 : Int) ∧ (0 : Int) ≤ k ∧ k ≤ (12 : Int)) ∧ ∃ (x : Nat × Int), ((n = n ∧ k = k ∧ i = i ∧ vecE n k i = vecE n k i ∧ cnt
  (Int.toNat n) (Int.toNat k) = cnt (Int.toNat n) (Int.toNat k) ∧ (0 : Int) = (↑(Prod.fst x) : Int) ∧ IntKind.wrap IntKind.i64 (cnt (4 : Nat) (Int.toNat k) - (1 : Int)) = Prod.snd x ∧ y = y ∧ true = true) ∧ Prod.fst x +
  bitLen (Int.toNat (Prod.snd x)) = bitLen (Int.toNat (cnt (4 : Nat) (Int.toNat k) - (1 : Int))) ∧ Prod.snd x ≤ (10000000000 : Int)) ∧ ∀ (x : Nat × Int), Prod.fst x + bitLen (Int.toNat (Prod.snd x)) = bitLen (Int.toNat (cnt
  (4 : Nat) (Int.toNat k) - (1 : Int))) ∧ Prod.snd x ≤ (10000000000 : Int) → IntKind.min IntKind.i64 ≤ (↑(Prod.fst x) : Int) ∧ (↑(Prod.fst x) : Int) ≤ IntKind.max IntKind.i64 ∧ IntKind.min IntKind.i64 ≤ Prod.snd x ∧
  Prod.snd x ≤ IntKind.max IntKind.i64 → bif decide ((0 : Int) < Prod.snd x) then (2 : Int) ≠ (0 : Int) ∧ ∃ (y_1 : Nat × Int), (n = n ∧ k = k ∧ i = i ∧ vecE n k i = vecE n k i ∧ cnt (Int.toNat n) (Int.toNat k) = cnt
  (Int.toNat n) (Int.toNat k) ∧ IntKind.wrap IntKind.i64 ((↑(Prod.fst x) : Int) + (1 : Int)) = (↑(Prod.fst y_1) : Int) ∧ IntKind.wrap IntKind.i64 (Int.tdiv (Prod.snd x) (2 : Int)) = Prod.snd y_1 ∧ y = y ∧ true = true) ∧
  (Prod.fst y_1 + bitLen (Int.toNat (Prod.snd y_1)) = bitLen (Int.toNat (cnt (4 : Nat) (Int.toNat k) - (1 : Int))) ∧ Prod.snd y_1 ≤ (10000000000 : Int)) ∧ Int.toNat (Prod.snd y_1) < Int.toNat (Prod.snd x) else bif decide
  (countF n k = cnt (Int.toNat n) (Int.toNat k)) then ∀ (b : Bool), decide (bitsF k = (↑(Prod.fst x) : Int)) = b → ∀ (b_3 : Bool), decide ((0 : Int) ≤ i) = b_3 → ∀ (b_4 : Bool), (bif b then decide (vecE n k i = (0 : Int))
  == bif b_3 then decide (i < cnt (Int.toNat n) (Int.toNat k)) else false else false) = b_4 → ∀ (b_5 : Bool), decide (vecE n k i = (0 : Int)) = b_5 → ((b = true → b = true) ∧ (b = true → b = true) ∧ ((b && b && b_3) = true
  → (b && b && b_3) = true ∧ (b && b && b_3) = true) ∧ (b = true → (b && b) = true ∧ (b_3 = true → (b && b && b_3) = true)) ∧ (b = true → b = true ∧ b = true) ∧ (b = true → b = true) ∧ (b_4 = true → b_4 = true) ∧ ((b_4 &&
  b_4 && !b_5) = true → (b_4 && b_4 && !b_5) = true) ∧ (b_4 = true → (b_4 && b_4) = true ∧ (b_5 = false → (b_4 && b_4 && !b_5) = true)) ∧ (b_4 = true → b_4 = true)) ∧ (bif b_4 then bif b_5 then true else decide (vecE n k i
  = (7 : Int)) else false) = true ∧ y = y ∧ true = true else ∀ (b : Bool), false = b → ∀ (b_3 : Bool), decide ((0 : Int) ≤ i) = b_3 → ∀ (b_4 : Bool), (bif b then decide (vecE n k i = (0 : Int)) == bif b_3 then decide (i <
  cnt (Int.toNat n) (Int.toNat k)) else false else false) = b_4 → ∀ (b_5 : Bool), decide (vecE n k i = (0 : Int)) = b_5 → ((false = true → false = true) ∧ (b = true → b = true) ∧ (b = true → b = true) ∧ ((b && b && b_3) =
  true → (b && b && b_3) = true ∧ (b && b && b_3) = true) ∧ (b = true → (b && b) = true ∧ (b_3 = true → (b && b && b_3) = true)) ∧ (b = true → b = true ∧ b = true) ∧ (b = true → b = true) ∧ (b_4 = true → b_4 = true) ∧ ((b_4
  && b_4 && !b_5) = true → (b_4 && b_4 && !b_5) = true) ∧ (b_4 = true → (b_4 && b_4) = true ∧ (b_5 = false → (b_4 && b_4 && !b_5) = true)) ∧ (b_4 = true → b_4 = true)) ∧ (bif b_4 then bif b_5 then true else decide (vecE n k
  i = (7 : Int)) else false) = true ∧ y = y ∧ true = true else m = List.length y ∧ ∀ (b : Bool), (!decide (pulsesF y = min (sumSz (List.take x y)) (13 : Int))) = b → (m = List.length y ∧ ((!b) = true → (!b) = true) ∧ ((!b)
  = true → (!b) = true) ∧ ((!b) = true → (!b) = true ∧ (!b) = true) ∧ (b = false → (!b) = true)) ∧ bif bif b then true else !decide (Prod.snd (indexF y) = (7 : Int)) == decide (min (sumSz (List.take x y)) (13 : Int) = (13 :
  Int)) then false = true ∧ y = y ∧ true = true else ∀ (b : Bool), decide (n < (0 : Int)) = b → ∀ (b_1 : Bool), (bif b then true else decide ((8 : Int) < n)) = b_1 → ∀ (b_2 : Bool), (bif b_1 then true else decide (k < (0 :
  Int))) = b_2 → (((!b) = true → (!b) = true) ∧ (b = false → (!b) = true) ∧ ((!b_1) = true → (!b_1) = true) ∧ (b_1 = false → (!b_1) = true) ∧ ((!b_2) = true → (!b_2) = true) ∧ (b_2 = false → (!b_2) = true)) ∧ bif bif b_2
  then true else decide ((12 : Int) < k) then bif decide (vecE n k i = (1 : Int)) then bif decide (countF n k = (0 : Int)) then bif decide ((0 : Int) ≤ k) then bif decide (k ≤ (12 : Int)) then (true = false → false = true)
  ∧ true = true ∧ y = y ∧ true = true else decide (bitsF k = (0 : Int)) = true ∧ y = y ∧ true = true else (false = true → false = true) ∧ decide (bitsF k = (0 : Int)) = true ∧ y = y ∧ true = true else (false = true → false
  = true) ∧ false = true ∧ y = y ∧ true = true else ((false = true → false = true) ∧ (false = true → false = true)) ∧ false = true ∧ y = y ∧ true = true else ((0 : Int) ≤ n ∧ n ≤ (8 : Int) ∧ (0 : Int) ≤ k ∧ k ≤ (12 : Int))
  ∧ ((0 : Int) ≤ (4 : Int) ∧ (4 : Int) ≤ (8 : Int) ∧ (0 : Int) ≤ k ∧ k ≤ (12 : Int)) ∧ ∃ (x : Nat × Int), ((n = n ∧ k = k ∧ i = i ∧ vecE n k i = vecE n k i ∧ cnt (Int.toNat n) (Int.toNat k) = cnt (Int.toNat n) (Int.toNat k)
  ∧ (0 : Int) = (↑(Prod.fst x) : Int) ∧ IntKind.wrap IntKind.i64 (cnt (4 : Nat) (Int.toNat k) - (1 : Int)) = Prod.snd x ∧ y = y ∧ true = true) ∧ Prod.fst x + bitLen (Int.toNat (Prod.snd x)) = bitLen (Int.toNat (cnt (4 :
  Nat) (Int.toNat k) - (1 : Int))) ∧ Prod.snd x ≤ (10000000000 : Int)) ∧ ∀ (x : Nat × Int), Prod.fst x + bitLen (Int.toNat (Prod.snd x)) = bitLen (Int.toNat (cnt (4 : Nat) (Int.toNat k) - (1 : Int))) ∧ Prod.snd x ≤
  (10000000000 : Int) → IntKind.min IntKind.i64 ≤ (↑(Prod.fst x) : Int) ∧ (↑(Prod.fst x) : Int) ≤ IntKind.max IntKind.i64 ∧ IntKind.min IntKind.i64 ≤ Prod.snd x ∧ Prod.snd x ≤ IntKind.max IntKind.i64 → bif decide ((0 : Int)
  < Prod.snd x) then (2 : Int) ≠ (0 : Int) ∧ ∃ (y_1 : Nat × Int), (n = n ∧ k = k ∧ i = i ∧ vecE n k i = vecE n k i ∧ cnt (Int.toNat n) (Int.toNat k) = cnt (Int.toNat n) (Int.toNat k) ∧ IntKind.wrap IntKind.i64 ((↑(Prod.fst
  x) : Int) + (1 : Int)) = (↑(Prod.fst y_1) : Int) ∧ IntKind.wrap IntKind.i64 (Int.tdiv (Prod.snd x) (2 : Int)) = Prod.snd y_1 ∧ y = y ∧ true = true) ∧ (Prod.fst y_1 + bitLen (Int.toNat (Prod.snd y_1)) = bitLen (Int.toNat
  (cnt (4 : Nat) (Int.toNat k) - (1 : Int))) ∧ Prod.snd y_1 ≤ (10000000000 : Int)) ∧ Int.toNat (Prod.snd y_1) < Int.toNat (Prod.snd x) else bif decide (countF n k = cnt (Int.toNat n) (Int.toNat k)) then ∀ (b : Bool), decide
  (bitsF k = (↑(Prod.fst x) : Int)) = b → ∀ (b_3 : Bool), decide ((0 : Int) ≤ i) = b_3 → ∀ (b_4 : Bool), (bif b then decide (vecE n k i = (0 : Int)) == bif b_3 then decide (i < cnt (Int.toNat n) (Int.toNat k)) else false
  else false) = b_4 → ∀ (b_5 : Bool), decide (vecE n k i = (0 : Int)) = b_5 → ((b = true → b = true) ∧ (b = true → b = true) ∧ ((b && b && b_3) = true → (b && b && b_3) = true ∧ (b && b && b_3) = true) ∧ (b = true → (b &&
  b) = true ∧ (b_3 = true → (b && b && b_3) = true)) ∧ (b = true → b = true ∧ b = true) ∧ (b = true → b = true) ∧ (b_4 = true → b_4 = true) ∧ ((b_4 && b_4 && !b_5) = true → (b_4 && b_4 && !b_5) = true) ∧ (b_4 = true → (b_4
  && b_4) = true ∧ (b_5 = false → (b_4 && b_4 && !b_5) = true)) ∧ (b_4 = true → b_4 = true)) ∧ (bif b_4 then bif b_5 then true else decide (vecE n k i = (7 : Int)) else false) = true ∧ y = y ∧ true = true else ∀ (b : Bool),
  false = b → ∀ (b_3 : Bool), decide ((0 : Int) ≤ i) = b_3 → ∀ (b_4 : Bool), (bif b then decide (vecE n k i = (0 : Int)) == bif b_3 then decide (i < cnt (Int.toNat n) (Int.toNat k)) else false else false) = b_4 → ∀ (b_5 :
  Bool), decide (vecE n k i = (0 : Int)) = b_5 → ((false = true → false = true) ∧ (b = true → b = true) ∧ (b = true → b = true) ∧ ((b && b && b_3) = true → (b && b && b_3) = true ∧ (b && b && b_3) = true) ∧ (b = true → (b
  && b) = true ∧ (b_3 = true → (b && b && b_3) = true)) ∧ (b = true → b = true ∧ b = true) ∧ (b = true → b = true) ∧ (b_4 = true → b_4 = true) ∧ ((b_4 && b_4 && !b_5) = true → (b_4 && b_4 && !b_5) = true) ∧ (b_4 = true →
  (b_4 && b_4) = true ∧ (b_5 = false → (b_4 && b_4 && !b_5) = true)) ∧ (b_4 = true → b_4 = true)) ∧ (bif b_4 then bif b_5 then true else decide (vecE n k i = (7 : Int)) else false) = true ∧ y = y ∧ true = true
theorem vc12 (n k i : Int) (m : Nat) (y : List Int) : P12 n k i m y = vcFun C12 (ann12 n k i m y) Go.Proofs.Try.f12 [⟨.int .i64, n⟩, ⟨.int .i64, k⟩, ⟨.int .i64, i⟩, ⟨.ref .slice, .slice 0 (.int .i64) [] 0 m⟩] [⟨true, false, .int .i64, y⟩] (out12 n k i m y) := by kernel_rfl

end Go.SL.A

/- PvqPlays: the code as a plain condition holds. -/
namespace Go.SL.A
open Go Go.SL Go.SL.S

theorem szR_mod {z : Int} (h1 : -12 ≤ z) (h2 : z ≤ 12) : szR (z.tmod 13) = sz13 z := by
  have := tdm z (k := 13) (by omega)
  have e : z.tmod 13 = z := by omega
  rw [e, sz13_small h1 h2]
  unfold szR
  split
  · rw [w64 (by omega) (by omega)]; omega
  · omega

theorem szR_mod_le (z : Int) : 0 ≤ szR (z.tmod 13) ∧ szR (z.tmod 13) ≤ 12 := by
  have := tdm z (k := 13) (by omega)
  unfold szR
  split
  · rw [w64 (by omega) (by omega)]; omega
  · omega

theorem sz13_big {z : Int} (h : z < -12 ∨ 12 < z) : sz13 z = 13 := by unfold sz13; rw [if_pos h]

theorem hw12 {n k i : Int} {m : Nat} {y : List Int} (hw : allP (List.flatMap (fun a : AV => a.t.wf a.x) [⟨.int .i64, n⟩, ⟨.int .i64, k⟩, ⟨.int .i64, i⟩, ⟨.ref .slice, .slice 0 (.int .i64) [] 0 m⟩] ++ List.flatMap Blk.wf [⟨true, false, .int .i64, y⟩])) : True := trivial

theorem pure12 (n k i : Int) (m : Nat) (y : List Int) (hp : m = y.length) (_ : True) : P12 n k i m y := by
  subst hp
  unfold P12
  rintro _ rfl
  simp only [Int.toNat_natCast, Nat.zero_add, eq_self, true_and, and_true, Bool.not_false, cond_false, forall_const, implies_true]
  by_cases h40 : (40 : Int) < (y.length : Int)
  · simp only [h40, decide_true, cond_true]
  simp only [h40, decide_false, cond_false]
  refine ⟨0, ⟨⟨by simp only [List.take_zero, sumSz]; decide, by simp⟩, by omega⟩, fun j hj _ => ?_⟩
  by_cases h : (j : Int) < (y.length : Int)
  · have hjl : j < y.length := by omega
    have w : IntKind.i64.wrap ((j : Int) + 1) = ((j + 1 : Nat) : Int) := by rw [w64 (by omega) (by omega)]; simp
    have e : sumSz (y.take (j + 1)) = sumSz (y.take j) + sz13 (y.getD j 0) := by rw [take_snoc' 0 hjl, sumSz_append]; simp [sumSz]
    have h1 := sumSz_le (y.take j)
    have h2 := szR_mod_le (y.getD j 0)
    have w1 : IntKind.i64.wrap (13 + szR ((y.getD j 0).tmod 13)) = 13 + szR ((y.getD j 0).tmod 13) := w64 (by omega) (by omega)
    have w2 : IntKind.i64.wrap (min (sumSz (y.take j)) 13 + szR ((y.getD j 0).tmod 13)) = min (sumSz (y.take j)) 13 + szR ((y.getD j 0).tmod 13) := w64 (by omega) (by omega)
    simp only [h, decide_true, cond_true, w]
    rintro _ rfl
    simp only [w1, w2]
    refine ⟨by simp [hjl], ?_⟩
    by_cases b1 : y.getD j 0 < -12
    · have := sz13_big (.inl b1)
      simp only [b1, decide_true, cond_true]
      exact ⟨by simp [hjl], j + 1, ⟨by omega, rfl⟩, by omega, by omega⟩
    · by_cases b2 : 12 < y.getD j 0
      · have := sz13_big (.inr b2)
        simp only [b1, b2, decide_true, decide_false, cond_true, cond_false]
        exact ⟨by simp [hjl], j + 1, ⟨by omega, rfl⟩, by omega, by omega⟩
      · have := szR_mod (z := y.getD j 0) (by omega) (by omega)
        simp only [b1, b2, decide_false, cond_false]
        exact ⟨by simp [hjl], j + 1, ⟨by omega, rfl⟩, by omega, by omega⟩
  have : j = y.length := by omega
  subst this
  simp only [h, decide_false, cond_false, List.take_length]
  by_cases h8 : (8 : Int) < (y.length : Int)
  case' pos =>
    have e1 : pulsesF y = 13 := by unfold pulsesF; rw [if_pos (by omega)]
    have e2 : (indexF y).2 = 7 := by unfold indexF; rw [if_pos (by omega)]
    simp only [h8, decide_true, cond_true, e1, e2, Bool.not_true]
    rintro _ rfl
    simp only [Bool.not_false, cond_false, forall_const, implies_true, and_self, true_and, and_true, beq_self_eq_true, Bool.not_true]
  case' neg =>
    have e1 : pulsesF y = min (sumSz y) 13 := by unfold pulsesF; rw [if_neg (by omega)]
    have e2 : decide ((indexF y).2 = 7) = decide (min (sumSz y) 13 = 13) := by
      unfold indexF; rw [e1]
      by_cases hc : 12 < min (sumSz y) 13
      · rw [if_pos hc]
        have : min (sumSz y) 13 = 13 := by omega
        simp [this]
      · rw [if_neg hc]
        have : ¬ min (sumSz y) 13 = 13 := by omega
        simp [this]
    simp only [h8, decide_false, cond_false, e1, e2, decide_true, Bool.not_true]
    rintro _ rfl
    simp only [Bool.not_false, cond_false, forall_const, implies_true, and_self, true_and, and_true, beq_self_eq_true, Bool.not_true]
  all_goals
    rintro _ rfl _ rfl _ rfl
    refine ⟨by simp, ?_⟩
    by_cases hok : 0 ≤ n ∧ n ≤ 8 ∧ 0 ≤ k ∧ k ≤ 12
    · have a1 : ¬ n < 0 := by omega
      have a2 : ¬ 8 < n := by omega
      have a3 : ¬ k < 0 := by omega
      have a4 : ¬ 12 < k := by omega
      have c1 : countF n k = cnt n.toNat k.toNat := countF_val hok
      have c2 : countF 4 k = cnt 4 k.toNat := by rw [countF_val (by omega)]; rfl
      have f1 := cnt_fits (n := 4) (k := k.toNat) (by omega) (by omega)
      have f2 : 1 ≤ cnt 4 k.toNat := cnt_pos 3 _
      have cb : bitsF k = (bitLen (cnt 4 k.toNat - 1).toNat : Nat) := by unfold bitsF; rw [c2]
      have w0 : IntKind.i64.wrap (cnt 4 k.toNat - 1) = cnt 4 k.toNat - 1 := w64 (by omega) (by omega)
      simp only [a1, a2, a3, a4, decide_false, cond_false, c1, w0, decide_true, cond_true]
      refine ⟨hok, by omega, (0, cnt 4 k.toNat - 1), ⟨⟨rfl, rfl⟩, by simp, by show cnt 4 k.toNat - 1 ≤ _; omega⟩, ?_⟩
      rintro ⟨p, q⟩ ⟨hpq, hq⟩ _
      simp only at hpq hq ⊢
      by_cases hq0 : 0 < q
      · have hb := bitLen_half (m := q.toNat) (by omega)
        have hd := tdm q (k := 2) (by omega)
        have hd2 : (q.tdiv 2).toNat = q.toNat / 2 := by omega
        have hl := bitLen_le (m := (cnt 4 k.toNat - 1).toNat) (by omega)
        have wp : IntKind.i64.wrap ((p : Int) + 1) = ((p + 1 : Nat) : Int) := by rw [w64 (by omega) (by omega)]; simp
        have wq : IntKind.i64.wrap (q.tdiv 2) = q.tdiv 2 := w64 (by omega) (by omega)
        simp only [hq0, decide_true, cond_true, wp, wq]
        refine ⟨by decide, (p + 1, q.tdiv 2), ⟨rfl, rfl⟩, ⟨?_, by show q.tdiv 2 ≤ _; omega⟩, by show (q.tdiv 2).toNat < _; omega⟩
        show p + 1 + bitLen (q.tdiv 2).toNat = _
        rw [hd2]; omega
      · have hz : q.toNat = 0 := by omega
        rw [hz, show bitLen 0 = 0 from rfl] at hpq
        have hb : bitsF k = (p : Int) := by rw [cb]; omega
        have ev : vecE n k i = if 0 ≤ i ∧ i < cnt n.toNat k.toNat then 0 else 7 := by
          unfold vecE; rw [if_pos (may_iff.2 hok), c1]
        simp only [hq0, decide_false, cond_false, hb, decide_true, cond_true]
        rintro _ rfl _ rfl _ rfl _ rfl
        by_cases i1 : 0 ≤ i
        · by_cases i2 : i < cnt n.toNat k.toNat
          · rw [if_pos ⟨i1, i2⟩] at ev
            simp [i1, i2, ev]
          · rw [if_neg (by omega)] at ev
            simp [i1, i2, ev]
        · rw [if_neg (by omega)] at ev
          simp [i1, ev]
    · have ev : vecE n k i = 1 := by unfold vecE; rw [if_neg (fun hc => hok (may_iff.1 hc))]
      have c1 : countF n k = 0 := by unfold countF; rw [if_neg (fun hc => hok (may_iff.1 hc))]
      have cb : ¬ (0 ≤ k ∧ k ≤ 12) → bitsF k = 0 := fun hk => by
        unfold bitsF countF; rw [if_neg (fun hc => hk (by have := may_iff.1 hc; omega))]; rfl
      have cb1 : ¬ 0 ≤ k → bitsF k = 0 := fun hk => cb (by omega)
      have cb2 : ¬ k ≤ 12 → bitsF k = 0 := fun hk => cb (by omega)
      have hc : (bif bif bif decide (n < 0) then true else decide (8 < n) then true else decide (k < 0) then true else decide (12 < k)) = true := by
        by_cases a1 : n < 0 <;> by_cases a2 : 8 < n <;> by_cases a3 : k < 0 <;> simp [a1, a2, a3]
        omega
      simp only [hc, cond_true, ev, c1, decide_true]
      by_cases k0 : 0 ≤ k <;> by_cases k1 : k ≤ 12 <;> simp [k0, k1, cb1, cb2]

end Go.SL.A

/- Functions do what they are held to do. -/
namespace Go.SL.A
open Go Go.SL Go.SL.S
theorem snd12 : Sound Go.Proofs.Try.prog G12 := snd49.add ⟨_, Go.Proofs.Try.func12, by kernel_rfl, by kernel_rfl⟩ (by
  intro args ins out h hp
  unfold sp12 at h
  split at h
  · rename_i n k i m y
    cases h
    exact vcFun_ok (C := C12) good snd49 Meth.none mix Go.Proofs.Try.func12 (ann12 n k i m y) (fun hw => by rw [← vc12 n k i m y]; exact pure12 n k i m y hp (hw12 hw))
  · cases h)

end Go.SL.A

/- PvqPlays: the law returns true, whatever its arguments; each argument reads afterwards as before. No condition. -/
namespace Go.Proofs.Ythhfccnhkadkcaa
open Go Go.SL Go.SL.S Go.ChangeShapes Go.WideShapes Go.ChangeAt Go.WideMaps Go.WideElems Go.RowKit
set_option maxRecDepth 100000

theorem parsT : ((Go.Proofs.Try.f12.params.toList).all fun t => Nat.blt t Go.Proofs.Try.prog.types.size) = true := by kernel_rfl
theorem parsL : Go.Proofs.Try.f12.params.toList = [3, 3, 3, 33] := by kernel_rfl
theorem law_pure : ∀ avs bls, argsOk Go.SL.A.D Go.Proofs.Try.f12.params.toList 0 avs bls → VCall Go.Proofs.Try.prog 12 avs bls ⟨[], .v .bool true, [], []⟩ := by
  rw [parsL]
  intro avs bls h
  replace h : ∃ (t : Ty) (x : t.I) (avs' : List AV), Go.SL.A.D.ty 3 = some t ∧ avs = ⟨t, x⟩ :: avs' ∧ argsOk Go.SL.A.D [3, 3, 33] 0 avs' bls := h
  obtain ⟨t, x0, avs, ht, rfl, h⟩ := h
  obtain rfl : .int .i64 = t := Option.some.inj ((show (some (.int .i64) : Option Ty) = Go.SL.A.D.ty 3 by kernel_rfl).trans ht)
  replace h : ∃ (t : Ty) (x : t.I) (avs' : List AV), Go.SL.A.D.ty 3 = some t ∧ avs = ⟨t, x⟩ :: avs' ∧ argsOk Go.SL.A.D [3, 33] 0 avs' bls := h
  obtain ⟨t, x1, avs, ht, rfl, h⟩ := h
  obtain rfl : .int .i64 = t := Option.some.inj ((show (some (.int .i64) : Option Ty) = Go.SL.A.D.ty 3 by kernel_rfl).trans ht)
  replace h : ∃ (t : Ty) (x : t.I) (avs' : List AV), Go.SL.A.D.ty 3 = some t ∧ avs = ⟨t, x⟩ :: avs' ∧ argsOk Go.SL.A.D [33] 0 avs' bls := h
  obtain ⟨t, x2, avs, ht, rfl, h⟩ := h
  obtain rfl : .int .i64 = t := Option.some.inj ((show (some (.int .i64) : Option Ty) = Go.SL.A.D.ty 3 by kernel_rfl).trans ht)
  replace h : ∃ (t : Ty) (xs : List t.I) (avs' : List AV) (bls' : List Blk), Go.SL.A.D.ty 3 = some t ∧ avs = ⟨.ref .slice, .slice 0 t [] 0 xs.length⟩ :: avs' ∧ bls = ⟨true, false, t, xs⟩ :: bls' ∧ argsOk Go.SL.A.D [] 1 avs' bls' := h
  obtain ⟨t, x3, avs, bls, ht, rfl, rfl, h⟩ := h
  obtain rfl : .int .i64 = t := Option.some.inj ((show (some (.int .i64) : Option Ty) = Go.SL.A.D.ty 3 by kernel_rfl).trans ht)
  obtain ⟨rfl, rfl⟩ : avs = [] ∧ bls = [] := h
  have q := (Go.SL.A.snd12 12 Go.SL.A.sp12 rfl).2 [⟨.int .i64, x0⟩, ⟨.int .i64, x1⟩, ⟨.int .i64, x2⟩, ⟨.ref .slice, .slice 0 (.int .i64) [] 0 x3.length⟩] [⟨true, false, .int .i64, x3⟩] _ rfl (rfl)
  exact q

theorem lifted (os : Os) (started : os.Started) (H : Type) (enc : TypeId × Value → H) :
    ReturnsInHanded {} Go.Proofs.Try.checked os 12 .any (Rows.pvqPlaysSpec.pre6 enc Go.Proofs.Try.prog Go.Proofs.Try.f12 Rows.pvqPlaysRow.domain false) (Rows.pvqPlaysSpec.post enc Go.Proofs.Try.prog Go.Proofs.Try.f12 false true false false) := by
  refine returnsInHanded_of_change (C := Go.Proofs.Try.checked) Seat.own started (by kernel_rfl) Go.Proofs.Try.func12
    (ChangeSpec.witness6 (enc := enc) (C := Go.Proofs.Try.checked) false ⟨#[], #[.int .i64 0, .int .i64 0, .int .i64 0, .slice none 0 0], []⟩ 8 (by kernel_rfl) (by kernel_rfl) (by kernel_rfl) (by kernel_rfl)) ?_
  intro W base args ds gs before hval hW _ _
  refine law_calls (D := Go.SL.A.D) Go.SL.A.good Seat.kids Seat.slicesFull (fun t ht => Nat.le_of_ble_eq_true (List.all_eq_true.1 parsT t ht)) (by kernel_rfl) (show Go.Proofs.Try.f12.resultTypes = #[4] by kernel_rfl) Go.Proofs.Try.underlying4 rfl (fun ds h => ?_) law_pure hval hW
  have h : ds.length = 4 := h
  match ds, h with
  | [_, _, _, _], _ => rfl

theorem joined : joinedFacts Go.Proofs.Try.prog 12 Go.Proofs.Try.f12 Rows.pvqPlaysSpec Rows.pvqPlaysRow = true := by
  unfold joinedFacts
  exact (andT (andT (andT (andT (andT (andT (andT (andT (andT (andT (andT (andT (andT (andT (andT (andT (andT (andT (andT (andT (andT (andT (andT (andT (andT (andT (andT (andT (andT (andT (andT (by as_aux_lemma => kernel_rfl) Seat.laidOut) Seat.mapsRowed) (by as_aux_lemma => kernel_rfl)) (by as_aux_lemma => kernel_rfl)) (by as_aux_lemma => kernel_rfl)) Seat.stops) (by as_aux_lemma => kernel_rfl)) Seat.knobs) (by as_aux_lemma => kernel_rfl)) (by as_aux_lemma => kernel_rfl)) (by as_aux_lemma => kernel_rfl)) (by as_aux_lemma => kernel_rfl)) (by as_aux_lemma => kernel_rfl)) (by as_aux_lemma => kernel_rfl)) (by as_aux_lemma => kernel_rfl)) (by as_aux_lemma => kernel_rfl)) (by as_aux_lemma => kernel_rfl)) (by as_aux_lemma => kernel_rfl)) (by as_aux_lemma => kernel_rfl)) (by as_aux_lemma => kernel_rfl)) (by as_aux_lemma => kernel_rfl)) (by as_aux_lemma => kernel_rfl)) (by as_aux_lemma => kernel_rfl)) Seat.heard) Seat.mayEnter) (by rw [Seat.lifts]; rfl)) (by rw [Seat.made]; rfl)) (by as_aux_lemma => kernel_rfl)) (by as_aux_lemma => kernel_rfl)) (by as_aux_lemma => kernel_rfl)) (by as_aux_lemma => kernel_rfl))

theorem pvqPlays_holds : Rows.PvqPlaysSaid :=
  OpenClaim.holds_of_wide 12 Go.Proofs.Try.f12 rfl rfl rfl rfl rfl rfl rfl ⟨rfl, rfl, rfl, rfl, rfl⟩ rfl rfl rfl rfl rfl (by kernel_rfl) Go.Proofs.Try.func12 joined
    (of_decide_eq_true (by kernel_rfl)) (by unfold Func.isWrapper; first | (rw [if_pos (by decide +kernel)]; kernel_rfl) | (rw [if_neg (by decide +kernel)]; exact ⟨rfl, rfl⟩))
    (fun os started H enc _ => lifted os started H enc)

#print axioms pvqPlays_holds
end Go.Proofs.Ythhfccnhkadkcaa
