/- How the document counts vectors. -/
import Derived.Test.YthhfccnhkadkcaaDoorPvq

/- Plain functions of the document's answer for pvq. -/
namespace Go.SL.S
open Go Go.SL.A
def szR (x : Int) : Int := if x < 0 then IntKind.i64.wrap (0 - x) else x
def g1 (i a j : Nat) : Int := if j < a then cnt (i + 1) j else 0
def ptF (i a x : Nat) : Int := if x = 0 then 0 else cnt i a + 2 * revTo (cnt i) a (x - 1)
def g2 (i a x j : Nat) : Int := if j < a then cnt (i + 1) j else if j = a then ptF i a x else 0
/-- f 0, .. , f (n - 1). -/
def mapR (n : Nat) (f : Nat → Int) : List Int := (List.range n).map f
end Go.SL.S

/- Functions and what they are held to do: bound to their code. -/
namespace Go.SL.A
open Go Go.SL Go.SL.S
set_option maxRecDepth 100000
noncomputable def C48 : Ctx := ⟨Go.Proofs.Tryd.prog, D, G42, (fun _ _ => none), fun _ => []⟩
def ann48 (_x : Int) : Nat → St → Option Ann := fun _ _ => none
def out48 (x : Int) : COut := ⟨[], .v (.int .i64) (szR x), [], []⟩
def sp48 : Spec := fun args ins => match args, ins with
  | [⟨.int .i64, x⟩], [] => some (out48 x)
  | _, _ => none
def G48 := addG G42 56 sp48
def P48 (x : Int) : Prop :=
  bif decide (x < (0 : Int)) then IntKind.wrap IntKind.i64 ((0 : Int) - x) = szR x else x = szR x
theorem vc48 (x : Int) : P48 x = vcFun C48 (ann48 x) Go.Proofs.Tryd.f56 [⟨.int .i64, x⟩] [] (out48 x) := by kernel_rfl

noncomputable def C49 : Ctx := ⟨Go.Proofs.Tryd.prog, D, G48, (fun _ _ => none), fun _ => []⟩
def ann49 (n k : Int) : Nat → St → Option Ann := fun id S => match id with | 0 => some ⟨Nat, [0, 1], [], fun i => [(6, .v (.int .i64) (i : Int)), (5, .v (.ref .slice) (.slice 1 (.int .i64) [] 0 (k.toNat + 1)))], fun i => [(1, some ⟨false, false, .int .i64, mapR (k.toNat + 1) (cnt i)⟩)], fun i => i ≤ n.toNat, fun i => n.toNat - i⟩ | 2 => some ⟨Nat, [0, 1, 5, 6, 7], [1], fun a => [(8, .v (.int .i64) (a : Int))], fun a => [(2, some ⟨false, false, .int .i64, mapR (k.toNat + 1) (g1 (S.i 6).toNat a)⟩)], fun a => a ≤ k.toNat + 1, fun a => k.toNat + 1 - a⟩ | _ => some ⟨Nat, [0, 1, 5, 6, 7, 8], [1], fun x => [(9, .v (.int .i64) (x : Int))], fun x => [(2, some ⟨false, false, .int .i64, mapR (k.toNat + 1) (g2 (S.i 6).toNat (S.i 8).toNat x)⟩)], fun x => x ≤ (S.i 8).toNat + 1, fun x => (S.i 8).toNat + 1 - x⟩
def out49 (n k : Int) : COut := ⟨[0 ≤ n ∧ n ≤ 8 ∧ 0 ≤ k ∧ k ≤ 12], .v (.int .i64) (cnt n.toNat k.toNat), [], []⟩
def sp49 : Spec := fun args ins => match args, ins with
  | [⟨.int .i64, n⟩, ⟨.int .i64, k⟩], [] => some (out49 n k)
  | _, _ => none
def G49 := addG G48 111 sp49
def P49 (n k : Int) : Prop :=
  ((0 : Int) ≤ IntKind.wrap IntKind.i64 (k + (1 : Int)) ∧ IntKind.wrap IntKind.i64 (k + (1 : Int)) = IntKind.wrap IntKind.i64 (k + (1 : Int)) ∧ IntKind.wrap IntKind.i64 (k + (1 : Int)) * (↑(8 : Nat) : Int) ≤
  (↑(70368744177664 : Nat) : Int) ∧ IntKind.wrap IntKind.i64 (k + (1 : Int)) ≤ (↑(70368744177664 : Nat) : Int)) ∧ (((0 : Int) ≤ (0 : Int) ∧ (0 : Int) < (↑(Int.toNat (IntKind.wrap IntKind.i64 (k + (1 : Int)))) : Int)) ∧ (0 :
  Nat) < List.length (List.replicate (Int.toNat (IntKind.wrap IntKind.i64 (k + (1 : Int)))) (0 : Int))) ∧ ∃ (x : Nat), ((n = n ∧ k = k ∧ (0 : Nat) = (0 : Nat) ∧ Int.toNat (IntKind.wrap IntKind.i64 (k + (1 : Int))) =
  Int.toNat k + (1 : Nat) ∧ (0 : Int) = (↑x : Int) ∧ List.set (List.replicate (Int.toNat (IntKind.wrap IntKind.i64 (k + (1 : Int)))) (0 : Int)) (0 : Nat) (1 : Int) = mapR (Int.toNat k + (1 : Nat)) (cnt x) ∧ false = false) ∧
  x ≤ Int.toNat n) ∧ ∀ (x : Nat), x ≤ Int.toNat n → (IntKind.min IntKind.i64 ≤ (↑x : Int) ∧ (↑x : Int) ≤ IntKind.max IntKind.i64 ∧ ∀ (y : Int), List.Mem y (mapR (Int.toNat k + (1 : Nat)) (cnt x)) → IntKind.min IntKind.i64 ≤
  y ∧ y ≤ IntKind.max IntKind.i64) → bif decide ((↑x : Int) < n) then ((0 : Int) ≤ IntKind.wrap IntKind.i64 (k + (1 : Int)) ∧ IntKind.wrap IntKind.i64 (k + (1 : Int)) = IntKind.wrap IntKind.i64 (k + (1 : Int)) ∧
  IntKind.wrap IntKind.i64 (k + (1 : Int)) * (↑(8 : Nat) : Int) ≤ (↑(70368744177664 : Nat) : Int) ∧ IntKind.wrap IntKind.i64 (k + (1 : Int)) ≤ (↑(70368744177664 : Nat) : Int)) ∧ ∃ (x_1 : Nat), ((n = n ∧ k = k ∧ (0 : Nat) =
  (0 : Nat) ∧ Int.toNat k + (1 : Nat) = Int.toNat k + (1 : Nat) ∧ (↑x : Int) = (↑x : Int) ∧ (0 : Nat) = (0 : Nat) ∧ Int.toNat (IntKind.wrap IntKind.i64 (k + (1 : Int))) = Int.toNat (IntKind.wrap IntKind.i64 (k + (1 : Int)))
  ∧ (0 : Int) = (↑x_1 : Int) ∧ mapR (Int.toNat k + (1 : Nat)) (cnt x) = mapR (Int.toNat k + (1 : Nat)) (cnt x) ∧ false = false ∧ List.replicate (Int.toNat (IntKind.wrap IntKind.i64 (k + (1 : Int)))) (0 : Int) = mapR
  (Int.toNat k + (1 : Nat)) (g1 (Int.toNat (↑x : Int)) x_1) ∧ false = false) ∧ x_1 ≤ Int.toNat k + (1 : Nat)) ∧ ∀ (x_2 : Nat), x_2 ≤ Int.toNat k + (1 : Nat) → (IntKind.min IntKind.i64 ≤ (↑x_2 : Int) ∧ (↑x_2 : Int) ≤
  IntKind.max IntKind.i64 ∧ ∀ (y : Int), List.Mem y (mapR (Int.toNat k + (1 : Nat)) (g1 (Int.toNat (↑x : Int)) x_2)) → IntKind.min IntKind.i64 ≤ y ∧ y ≤ IntKind.max IntKind.i64) → bif decide ((↑x_2 : Int) ≤ k) then ∃ (x_3 :
  Nat), ((n = n ∧ k = k ∧ (0 : Nat) = (0 : Nat) ∧ Int.toNat k + (1 : Nat) = Int.toNat k + (1 : Nat) ∧ (↑x : Int) = (↑x : Int) ∧ (0 : Nat) = (0 : Nat) ∧ Int.toNat (IntKind.wrap IntKind.i64 (k + (1 : Int))) = Int.toNat
  (IntKind.wrap IntKind.i64 (k + (1 : Int))) ∧ (↑x_2 : Int) = (↑x_2 : Int) ∧ (0 : Int) = (↑x_3 : Int) ∧ mapR (Int.toNat k + (1 : Nat)) (cnt x) = mapR (Int.toNat k + (1 : Nat)) (cnt x) ∧ false = false ∧ mapR (Int.toNat k +
  (1 : Nat)) (g1 (Int.toNat (↑x : Int)) x_2) = mapR (Int.toNat k + (1 : Nat)) (g2 (Int.toNat (↑x : Int)) (Int.toNat (↑x_2 : Int)) x_3) ∧ false = false) ∧ x_3 ≤ Int.toNat (↑x_2 : Int) + (1 : Nat)) ∧ ∀ (x_4 : Nat), x_4 ≤
  Int.toNat (↑x_2 : Int) + (1 : Nat) → (IntKind.min IntKind.i64 ≤ (↑x_4 : Int) ∧ (↑x_4 : Int) ≤ IntKind.max IntKind.i64 ∧ ∀ (y : Int), List.Mem y (mapR (Int.toNat k + (1 : Nat)) (g2 (Int.toNat (↑x : Int)) (Int.toNat (↑x_2 :
  Int)) x_4)) → IntKind.min IntKind.i64 ≤ y ∧ y ≤ IntKind.max IntKind.i64) → bif decide ((↑x_4 : Int) ≤ (↑x_2 : Int)) then (((0 : Int) ≤ (↑x_2 : Int) ∧ (↑x_2 : Int) < (↑(Int.toNat (IntKind.wrap IntKind.i64 (k + (1 : Int))))
  : Int)) ∧ (0 : Nat) + Int.toNat (↑x_2 : Int) < List.length (mapR (Int.toNat k + (1 : Nat)) (g2 (Int.toNat (↑x : Int)) (Int.toNat (↑x_2 : Int)) x_4)) ∧ ((0 : Int) ≤ IntKind.wrap IntKind.i64 ((↑x_2 : Int) - (↑x_4 : Int)) ∧
  IntKind.wrap IntKind.i64 ((↑x_2 : Int) - (↑x_4 : Int)) < (↑(Int.toNat k + (1 : Nat)) : Int)) ∧ (0 : Nat) + Int.toNat (IntKind.wrap IntKind.i64 ((↑x_2 : Int) - (↑x_4 : Int))) < List.length (mapR (Int.toNat k + (1 : Nat))
  (cnt x)) ∧ ((0 : Int) ≤ (↑x_2 : Int) ∧ (↑x_2 : Int) < (↑(Int.toNat (IntKind.wrap IntKind.i64 (k + (1 : Int)))) : Int)) ∧ (0 : Nat) + Int.toNat (↑x_2 : Int) < List.length (mapR (Int.toNat k + (1 : Nat)) (g2 (Int.toNat (↑x
  : Int)) (Int.toNat (↑x_2 : Int)) x_4))) ∧ bif decide ((0 : Int) < (↑x_4 : Int)) then (((0 : Int) ≤ (↑x_2 : Int) ∧ (↑x_2 : Int) < (↑(Int.toNat (IntKind.wrap IntKind.i64 (k + (1 : Int)))) : Int)) ∧ (0 : Nat) + Int.toNat
  (↑x_2 : Int) < List.length (List.set (mapR (Int.toNat k + (1 : Nat)) (g2 (Int.toNat (↑x : Int)) (Int.toNat (↑x_2 : Int)) x_4)) ((0 : Nat) + Int.toNat (↑x_2 : Int)) (IntKind.wrap IntKind.i64 (List.getD (mapR (Int.toNat k +
  (1 : Nat)) (g2 (Int.toNat (↑x : Int)) (Int.toNat (↑x_2 : Int)) x_4)) ((0 : Nat) + Int.toNat (↑x_2 : Int)) (0 : Int) + List.getD (mapR (Int.toNat k + (1 : Nat)) (cnt x)) ((0 : Nat) + Int.toNat (IntKind.wrap IntKind.i64
  ((↑x_2 : Int) - (↑x_4 : Int)))) (0 : Int)))) ∧ ((0 : Int) ≤ IntKind.wrap IntKind.i64 ((↑x_2 : Int) - (↑x_4 : Int)) ∧ IntKind.wrap IntKind.i64 ((↑x_2 : Int) - (↑x_4 : Int)) < (↑(Int.toNat k + (1 : Nat)) : Int)) ∧ (0 : Nat)
  + Int.toNat (IntKind.wrap IntKind.i64 ((↑x_2 : Int) - (↑x_4 : Int))) < List.length (mapR (Int.toNat k + (1 : Nat)) (cnt x)) ∧ ((0 : Int) ≤ (↑x_2 : Int) ∧ (↑x_2 : Int) < (↑(Int.toNat (IntKind.wrap IntKind.i64 (k + (1 :
  Int)))) : Int)) ∧ (0 : Nat) + Int.toNat (↑x_2 : Int) < List.length (List.set (mapR (Int.toNat k + (1 : Nat)) (g2 (Int.toNat (↑x : Int)) (Int.toNat (↑x_2 : Int)) x_4)) ((0 : Nat) + Int.toNat (↑x_2 : Int)) (IntKind.wrap
  IntKind.i64 (List.getD (mapR (Int.toNat k + (1 : Nat)) (g2 (Int.toNat (↑x : Int)) (Int.toNat (↑x_2 : Int)) x_4)) ((0 : Nat) + Int.toNat (↑x_2 : Int)) (0 : Int) + List.getD (mapR (Int.toNat k + (1 : Nat)) (cnt x)) ((0 :
  Nat) + Int.toNat (IntKind.wrap IntKind.i64 ((↑x_2 : Int) - (↑x_4 : Int)))) (0 : Int))))) ∧ ∃ (y : Nat), (n = n ∧ k = k ∧ (0 : Nat) = (0 : Nat) ∧ Int.toNat k + (1 : Nat) = Int.toNat k + (1 : Nat) ∧ (↑x : Int) = (↑x : Int)
  ∧ (0 : Nat) = (0 : Nat) ∧ Int.toNat (IntKind.wrap IntKind.i64 (k + (1 : Int))) = Int.toNat (IntKind.wrap IntKind.i64 (k + (1 : Int))) ∧ (↑x_2 : Int) = (↑x_2 : Int) ∧ IntKind.wrap IntKind.i64 ((↑x_4 : Int) + (1 : Int)) =
  (↑y : Int) ∧ mapR (Int.toNat k + (1 : Nat)) (cnt x) = mapR (Int.toNat k + (1 : Nat)) (cnt x) ∧ false = false ∧ List.set (List.set (mapR (Int.toNat k + (1 : Nat)) (g2 (Int.toNat (↑x : Int)) (Int.toNat (↑x_2 : Int)) x_4))
  ((0 : Nat) + Int.toNat (↑x_2 : Int)) (IntKind.wrap IntKind.i64 (List.getD (mapR (Int.toNat k + (1 : Nat)) (g2 (Int.toNat (↑x : Int)) (Int.toNat (↑x_2 : Int)) x_4)) ((0 : Nat) + Int.toNat (↑x_2 : Int)) (0 : Int) +
  List.getD (mapR (Int.toNat k + (1 : Nat)) (cnt x)) ((0 : Nat) + Int.toNat (IntKind.wrap IntKind.i64 ((↑x_2 : Int) - (↑x_4 : Int)))) (0 : Int)))) ((0 : Nat) + Int.toNat (↑x_2 : Int)) (IntKind.wrap IntKind.i64 (List.getD
  (List.set (mapR (Int.toNat k + (1 : Nat)) (g2 (Int.toNat (↑x : Int)) (Int.toNat (↑x_2 : Int)) x_4)) ((0 : Nat) + Int.toNat (↑x_2 : Int)) (IntKind.wrap IntKind.i64 (List.getD (mapR (Int.toNat k + (1 : Nat)) (g2 (Int.toNat
  (↑x : Int)) (Int.toNat (↑x_2 : Int)) x_4)) ((0 : Nat) + Int.toNat (↑x_2 : Int)) (0 : Int) + List.getD (mapR (Int.toNat k + (1 : Nat)) (cnt x)) ((0 : Nat) + Int.toNat (IntKind.wrap IntKind.i64 ((↑x_2 : Int) - (↑x_4 :
  Int)))) (0 : Int)))) ((0 : Nat) + Int.toNat (↑x_2 : Int)) (0 : Int) + List.getD (mapR (Int.toNat k + (1 : Nat)) (cnt x)) ((0 : Nat) + Int.toNat (IntKind.wrap IntKind.i64 ((↑x_2 : Int) - (↑x_4 : Int)))) (0 : Int))) = mapR
  (Int.toNat k + (1 : Nat)) (g2 (Int.toNat (↑x : Int)) (Int.toNat (↑x_2 : Int)) y) ∧ false = false) ∧ y ≤ Int.toNat (↑x_2 : Int) + (1 : Nat) ∧ Int.toNat (↑x_2 : Int) + (1 : Nat) - y < Int.toNat (↑x_2 : Int) + (1 : Nat) -
  x_4 else ∃ (y : Nat), (n = n ∧ k = k ∧ (0 : Nat) = (0 : Nat) ∧ Int.toNat k + (1 : Nat) = Int.toNat k + (1 : Nat) ∧ (↑x : Int) = (↑x : Int) ∧ (0 : Nat) = (0 : Nat) ∧ Int.toNat (IntKind.wrap IntKind.i64 (k + (1 : Int))) =
  Int.toNat (IntKind.wrap IntKind.i64 (k + (1 : Int))) ∧ (↑x_2 : Int) = (↑x_2 : Int) ∧ IntKind.wrap IntKind.i64 ((↑x_4 : Int) + (1 : Int)) = (↑y : Int) ∧ mapR (Int.toNat k + (1 : Nat)) (cnt x) = mapR (Int.toNat k + (1 :
  Nat)) (cnt x) ∧ false = false ∧ List.set (mapR (Int.toNat k + (1 : Nat)) (g2 (Int.toNat (↑x : Int)) (Int.toNat (↑x_2 : Int)) x_4)) ((0 : Nat) + Int.toNat (↑x_2 : Int)) (IntKind.wrap IntKind.i64 (List.getD (mapR (Int.toNat
  k + (1 : Nat)) (g2 (Int.toNat (↑x : Int)) (Int.toNat (↑x_2 : Int)) x_4)) ((0 : Nat) + Int.toNat (↑x_2 : Int)) (0 : Int) + List.getD (mapR (Int.toNat k + (1 : Nat)) (cnt x)) ((0 : Nat) + Int.toNat (IntKind.wrap IntKind.i64
  ((↑x_2 : Int) - (↑x_4 : Int)))) (0 : Int))) = mapR (Int.toNat k + (1 : Nat)) (g2 (Int.toNat (↑x : Int)) (Int.toNat (↑x_2 : Int)) y) ∧ false = false) ∧ y ≤ Int.toNat (↑x_2 : Int) + (1 : Nat) ∧ Int.toNat (↑x_2 : Int) + (1 :
  Nat) - y < Int.toNat (↑x_2 : Int) + (1 : Nat) - x_4 else ∃ (y : Nat), (n = n ∧ k = k ∧ (0 : Nat) = (0 : Nat) ∧ Int.toNat k + (1 : Nat) = Int.toNat k + (1 : Nat) ∧ (↑x : Int) = (↑x : Int) ∧ (0 : Nat) = (0 : Nat) ∧
  Int.toNat (IntKind.wrap IntKind.i64 (k + (1 : Int))) = Int.toNat (IntKind.wrap IntKind.i64 (k + (1 : Int))) ∧ IntKind.wrap IntKind.i64 ((↑x_2 : Int) + (1 : Int)) = (↑y : Int) ∧ mapR (Int.toNat k + (1 : Nat)) (cnt x) =
  mapR (Int.toNat k + (1 : Nat)) (cnt x) ∧ false = false ∧ mapR (Int.toNat k + (1 : Nat)) (g2 (Int.toNat (↑x : Int)) (Int.toNat (↑x_2 : Int)) x_4) = mapR (Int.toNat k + (1 : Nat)) (g1 (Int.toNat (↑x : Int)) y) ∧ false =
  false) ∧ y ≤ Int.toNat k + (1 : Nat) ∧ Int.toNat k + (1 : Nat) - y < Int.toNat k + (1 : Nat) - x_2 else ∃ (y : Nat), (n = n ∧ k = k ∧ (0 : Nat) = (0 : Nat) ∧ Int.toNat (IntKind.wrap IntKind.i64 (k + (1 : Int))) =
  Int.toNat k + (1 : Nat) ∧ IntKind.wrap IntKind.i64 ((↑x : Int) + (1 : Int)) = (↑y : Int) ∧ mapR (Int.toNat k + (1 : Nat)) (g1 (Int.toNat (↑x : Int)) x_2) = mapR (Int.toNat k + (1 : Nat)) (cnt y) ∧ false = false) ∧ y ≤
  Int.toNat n ∧ Int.toNat n - y < Int.toNat n - x else (((0 : Int) ≤ k ∧ k < (↑(Int.toNat k + (1 : Nat)) : Int)) ∧ (0 : Nat) + Int.toNat k < List.length (mapR (Int.toNat k + (1 : Nat)) (cnt x))) ∧ List.getD (mapR (Int.toNat
  k + (1 : Nat)) (cnt x)) ((0 : Nat) + Int.toNat k) (0 : Int) = cnt (Int.toNat n) (Int.toNat k)
theorem vc49 (n k : Int) : P49 n k = vcFun C49 (ann49 n k) Go.Proofs.Tryd.f111 [⟨.int .i64, n⟩, ⟨.int .i64, k⟩] [] (out49 n k) := by kernel_rfl

end Go.SL.A

/- How the document counts vectors: proofs. -/
namespace Go.SL.A
open Go Go.SL Go.SL.S

theorem mapR_len (n : Nat) (f : Nat → Int) : (mapR n f).length = n := by simp [mapR]
theorem mapR_get {n j : Nat} {f : Nat → Int} (h : j < n) : (mapR n f).getD j 0 = f j := by simp [mapR, h]
theorem mapR_congr {n : Nat} {f g : Nat → Int} (h : ∀ j, j < n → f j = g j) : mapR n f = mapR n g := List.map_congr_left fun j hj => h j (List.mem_range.1 hj)
theorem mapR_set {n j : Nat} {f g : Nat → Int} {v : Int} (h : ∀ i, i < n → g i = if i = j then v else f i) : (mapR n f).set j v = mapR n g := by
  unfold mapR; rw [set_map_range]; exact List.map_congr_left fun i hi => (h i (List.mem_range.1 hi)).symm
theorem mapR_rep (n : Nat) : List.replicate n (0 : Int) = mapR n fun _ => 0 := by
  unfold mapR; rw [List.map_const']; simp

theorem pure48 (x : Int) : P48 x := by
  unfold P48 szR
  by_cases h : x < 0 <;> simp [h]

theorem revTo_mono {f : Nat → Int} (h : ∀ i, 0 ≤ f i) (K : Nat) : ∀ J d, revTo f K J ≤ revTo f K (J + d)
  | J, 0 => Int.le_refl _
  | J, d + 1 => by have := revTo_mono h K J d; have := h (K - (J + d + 1)); rw [← Nat.add_assoc, revTo]; omega

theorem ptF_le (i a x : Nat) (h : x ≤ a + 1) : 0 ≤ ptF i a x ∧ ptF i a x ≤ cnt (i + 1) a := by
  have hn := cnt_sum i a
  have h1 := (cnt_le i a).1
  have h0 := (cnt_le (i + 1) a).1
  have h2 := revTo_sum (cnt i) a a (Nat.le_refl _)
  rw [Nat.sub_self, show sumTo (cnt i) 0 = 0 from rfl] at h2
  unfold ptF
  split
  · omega
  · have h3 := revTo_mono (f := cnt i) (fun j => (cnt_le i j).1) a (x - 1) (a - (x - 1))
    have h4 := revTo_mono (f := cnt i) (fun j => (cnt_le i j).1) a 0 (x - 1)
    rw [show x - 1 + (a - (x - 1)) = a by omega] at h3
    rw [Nat.zero_add, show revTo (cnt i) a 0 = 0 from rfl] at h4
    omega

theorem ptF_all (i a : Nat) : ptF i a (a + 1) = cnt (i + 1) a := by
  have hn := cnt_sum i a
  have h2 := revTo_sum (cnt i) a a (Nat.le_refl _)
  rw [Nat.sub_self, show sumTo (cnt i) 0 = 0 from rfl] at h2
  unfold ptF
  rw [if_neg (by omega), Nat.add_sub_cancel]; omega

theorem pure49 (n k : Int) (h : 0 ≤ n ∧ n ≤ 8 ∧ 0 ≤ k ∧ k ≤ 12) : P49 n k := by
  obtain ⟨N, rfl⟩ : ∃ N : Nat, n = N := ⟨n.toNat, by omega⟩
  obtain ⟨K, rfl⟩ : ∃ K : Nat, k = K := ⟨k.toNat, by omega⟩
  have hN : N ≤ 8 := by omega
  have hK : K ≤ 12 := by omega
  have wk : IntKind.i64.wrap ((K : Int) + 1) = ((K + 1 : Nat) : Int) := by rw [w64 (by omega) (by omega)]; simp
  unfold P49
  simp only [Int.toNat_natCast, Nat.zero_add, eq_self, true_and, and_true, wk, mapR_len, List.length_replicate]
  refine ⟨⟨by omega, by omega, by omega⟩, ⟨by omega, by omega⟩, 0, ⟨⟨rfl, ?_⟩, by omega⟩, fun i hi _ => ?_⟩
  · rw [mapR_rep]
    refine mapR_set fun j hj => ?_
    cases j <;> simp [cnt, cnt0]
  by_cases hin : (i : Int) < (N : Int)
  · have wi : IntKind.i64.wrap ((i : Int) + 1) = ((i + 1 : Nat) : Int) := by rw [w64 (by omega) (by omega)]; simp
    simp only [hin, decide_true, cond_true, wi]
    refine ⟨⟨by omega, by omega, by omega⟩, 0, ⟨⟨rfl, ?_⟩, by omega⟩, fun a ha _ => ?_⟩
    · rw [mapR_rep]; exact mapR_congr fun j _ => by simp [g1]
    by_cases hak : (a : Int) ≤ (K : Int)
    · have wa : IntKind.i64.wrap ((a : Int) + 1) = ((a + 1 : Nat) : Int) := by rw [w64 (by omega) (by omega)]; simp
      simp only [hak, decide_true, cond_true, wa]
      refine ⟨0, ⟨⟨rfl, ?_⟩, by omega⟩, fun x hx _ => ?_⟩
      · exact mapR_congr fun j _ => by unfold g1 g2 ptF; simp
      by_cases hxa : (x : Int) ≤ (a : Int)
      · have wx : IntKind.i64.wrap ((x : Int) + 1) = ((x + 1 : Nat) : Int) := by rw [w64 (by omega) (by omega)]; simp
        have ws : IntKind.i64.wrap ((a : Int) - (x : Int)) = ((a - x : Nat) : Int) := by rw [w64 (by omega) (by omega)]; omega
        have e1 := mapR_get (n := K + 1) (j := a - x) (f := cnt i) (by omega)
        have e2 := mapR_get (n := K + 1) (j := a) (f := g2 i a x) (by omega)
        have e3 : g2 i a x a = ptF i a x := by simp [g2]
        have p1 := ptF_le i a x (by omega)
        have p2 := ptF_le i a (x + 1) (by omega)
        have c1 := cnt_fits (n := i + 1) (k := a) (by omega) (by omega)
        have c2 := cnt_fits (n := i) (k := a - x) (by omega) (by omega)
        have w1 : IntKind.i64.wrap (ptF i a x + cnt i (a - x)) = ptF i a x + cnt i (a - x) := w64 (by omega) (by omega)
        simp only [hxa, decide_true, cond_true, wx, ws, Int.toNat_natCast, e1, e2, e3, w1]
        by_cases hx0 : (0 : Int) < (x : Int)
        · have ep : ptF i a (x + 1) = ptF i a x + cnt i (a - x) + cnt i (a - x) := by
            unfold ptF
            rw [if_neg (by omega), if_neg (by omega), show x + 1 - 1 = x - 1 + 1 by omega, revTo, show x - 1 + 1 = x by omega]; omega
          have w2 : IntKind.i64.wrap (ptF i a x + cnt i (a - x) + cnt i (a - x)) = ptF i a x + cnt i (a - x) + cnt i (a - x) := w64 (by omega) (by omega)
          have e4 : ((mapR (K + 1) (g2 i a x)).set a (ptF i a x + cnt i (a - x))).getD a 0 = ptF i a x + cnt i (a - x) := by
            rw [List.getD_eq_getElem?_getD, List.getElem?_set_self (by rw [mapR_len]; omega)]; rfl
          simp only [hx0, decide_true, cond_true, e4, w2, List.length_set, mapR_len, List.set_set]
          refine ⟨by omega, by omega, x + 1, ⟨rfl, ?_⟩, by omega, by omega⟩
          refine mapR_set fun j _ => ?_
          unfold g2
          by_cases ej : j = a
          · subst ej; simp [ep]
          · simp [ej]
        · have hx00 : x = 0 := by omega
          subst hx00
          have ep : ptF i a (0 + 1) = ptF i a 0 + cnt i (a - 0) := by simp [ptF, revTo]
          simp only [hx0, decide_false, cond_false]
          refine ⟨by omega, 0 + 1, ⟨rfl, ?_⟩, by omega, by omega⟩
          refine mapR_set fun j _ => ?_
          unfold g2
          by_cases ej : j = a
          · subst ej; simp [ep]
          · simp [ej]
      · have : x = a + 1 := by omega
        subst this
        simp only [hxa, decide_false, cond_false]
        refine ⟨a + 1, ⟨rfl, mapR_congr fun j _ => ?_⟩, by omega, by omega⟩
        unfold g1 g2
        by_cases e1 : j < a
        · rw [if_pos e1, if_pos (by omega)]
        · by_cases e2 : j = a
          · subst e2; rw [if_neg e1, if_pos rfl, if_pos (by omega), ptF_all]
          · rw [if_neg e1, if_neg e2, if_neg (by omega)]
    · have : a = K + 1 := by omega
      subst this
      simp only [hak, decide_false, cond_false]
      refine ⟨i + 1, ⟨rfl, mapR_congr fun j hj => ?_⟩, by omega, by omega⟩
      unfold g1; rw [if_pos hj]
  · have : i = N := by omega
    subst this
    simp only [hin, decide_false, cond_false]
    exact ⟨⟨⟨by omega, by omega⟩, by omega⟩, mapR_get (by omega)⟩

end Go.SL.A

/- Functions do what they are held to do. -/
namespace Go.SL.A
open Go Go.SL Go.SL.S
theorem snd48 : Sound Go.Proofs.Tryd.prog G48 := snd42.add ⟨_, Go.Proofs.Tryd.func56, by kernel_rfl, by kernel_rfl⟩ (by
  intro args ins out h hp
  unfold sp48 at h
  split at h
  · rename_i x
    cases h
    exact vcFun_ok (C := C48) good snd42 Meth.none mix Go.Proofs.Tryd.func56 (ann48 x) (fun hw => by rw [← vc48 x]; exact pure48 x)
  · cases h)

theorem snd49 : Sound Go.Proofs.Tryd.prog G49 := snd48.add ⟨_, Go.Proofs.Tryd.func111, by kernel_rfl, by kernel_rfl⟩ (by
  intro args ins out h hp
  unfold sp49 at h
  split at h
  · rename_i n k
    cases h
    exact vcFun_ok (C := C49) good snd48 Meth.none mix Go.Proofs.Tryd.func111 (ann49 n k) (fun hw => by rw [← vc49 n k]; exact pure49 n k hp)
  · cases h)

end Go.SL.A
