/- LoadTakes returns true, whatever its arguments, which read afterwards as before: no condition but that the package-level table holds what the program's text lays (tied by the card). -/
import Derived.Test.YthhfccnhkadkcaaDoorRows
import Derived.Test.YthhfccnhkadkcaaDoorCards
import Derived.Test.YthhfccnhkadkcaaDoorTie
import Derived.Test.YthhfccnhkadkcaaDoorLoad
import Derived.Test.YthhfccnhkadkcaaDoorKb
import Derived.Test.YthhfccnhkadkcaaDoorT

/- Functions and what they are held to do: bound to their code. -/
namespace Go.SL.A
open Go Go.SL Go.SL.S
set_option maxRecDepth 100000
noncomputable def Cd8 : Ctx := ⟨Go.Proofs.Tryd.prog, D, Gd32, (fun _ _ => none), fun _ => []⟩
def annd8 (k : List Int) (p z : Int) (_n _m : Nat) (a o : List Int) : Nat → St → Option Ann := fun _ _ => some ⟨Nat, [1, 4, 5, 11, 12, 13, 14], [0, 1, 2, 3, 4, 5], fun i => [(15, .v (.int .i64) (i : Int))], fun i => [(6, some ⟨false, true, .arr 127 (.int .i64), [(votW (spoilF (encF (numP k (p % 281474976710656))) a) (holesF o) z).take i ++ (List.replicate 127 0).drop i]⟩)], fun i => i ≤ 127, fun i => 127 - i⟩
def outd8 (_k : List Int) (_p _z : Int) (n m : Nat) (a o : List Int) : COut := ⟨[n = a.length ∧ m = o.length], .v .bool true, [], []⟩
def spd8 : Spec := fun args ins => match args, ins with
  | [⟨.arr 16 (.int .u8), k⟩, ⟨.int .i64, p⟩, ⟨.ref .slice, .slice 0 (.int .u8) [] 0 n⟩, ⟨.ref .slice, .slice 1 (.int .u8) [] 0 m⟩, ⟨.int .u8, z⟩], [⟨true, false, .int .u8, a⟩, ⟨true, false, .int .u8, o⟩] => some (outd8 k p z n m a o)
  | _, _ => none
def Gd8 := addG Gd32 8 spd8
def Pd8 (k : List Int) (p z : Int) (n m : Nat) (a o : List Int) : Prop :=
  ∀ (b : Bool), false = b → ∀ (b_1 : Bool), (bif b then true else decide ((40 : Int) < (↑n : Int))) = b_1 → (((!b) = true → (!b) = true) ∧ ((!b) = true → (!b) = true) ∧ (b = false → (!b) = true) ∧ ((!b_1) = true → (!b_1) =
  true) ∧ ((!b_1) = true → (!b_1) = true) ∧ (b_1 = false → (!b_1) = true)) ∧ bif bif b_1 then true else decide ((40 : Int) < (↑m : Int)) then true = true ∧ a = a ∧ true = true ∧ o = o ∧ true = true else mayL (iand
  IntKind.i64 p (281474976710655 : Int)) = true ∧ (n = List.length a ∧ n ≤ (1000000 : Nat)) ∧ (m = List.length o ∧ m ≤ (1000000 : Nat)) ∧ ∃ (x : Nat), ((iand IntKind.i64 p (281474976710655 : Int) = iand IntKind.i64 p
  (281474976710655 : Int) ∧ z = z ∧ (0 : Nat) = (0 : Nat) ∧ (0 : Nat) = (0 : Nat) ∧ (0 : Nat) = (0 : Nat) ∧ (0 : Nat) = (0 : Nat) ∧ (0 : Nat) = (0 : Nat) ∧ (0 : Int) = (↑x : Int) ∧ a = a ∧ true = true ∧ o = o ∧ true = true
  ∧ k = k ∧ false = false ∧ encF (numP k (iand IntKind.i64 p (281474976710655 : Int))) = encF (numP k (iand IntKind.i64 p (281474976710655 : Int))) ∧ false = false ∧ spoilF (encF (numP k (iand IntKind.i64 p (281474976710655
  : Int)))) a = spoilF (encF (numP k (iand IntKind.i64 p (281474976710655 : Int)))) a ∧ false = false ∧ holesF o = holesF o ∧ false = false ∧ (0 : Int) :: List.replicate (nat_lit 126) (0 : Int) = List.take x (votW (spoilF
  (encF (numP k (p % (281474976710656 : Int)))) a) (holesF o) z) ++ List.drop x (List.replicate (127 : Nat) (0 : Int)) ∧ false = false) ∧ x ≤ (127 : Nat)) ∧ ∀ (x : Nat), x ≤ (127 : Nat) → (IntKind.min IntKind.i64 ≤ (↑x :
  Int) ∧ (↑x : Int) ≤ IntKind.max IntKind.i64 ∧ ∀ (y : List Int), List.Mem y [List.take x (votW (spoilF (encF (numP k (p % (281474976710656 : Int)))) a) (holesF o) z) ++ List.drop x (List.replicate (127 : Nat) (0 : Int))] →
  List.length y = (127 : Nat) ∧ ∀ (y_1 : Int), List.Mem y_1 y → IntKind.min IntKind.i64 ≤ y_1 ∧ y_1 ≤ IntKind.max IntKind.i64) → bif decide ((↑x : Int) < (127 : Int)) then (((0 : Int) ≤ (↑x : Int) ∧ (↑x : Int) < (↑(127 :
  Nat) : Int)) ∧ Int.toNat (↑x : Int) < (127 : Nat)) ∧ (((0 : Int) ≤ (↑x : Int) ∧ (↑x : Int) < (↑(127 : Nat) : Int)) ∧ Int.toNat (↑x : Int) < (127 : Nat)) ∧ bif List.getD (spoilF (encF (numP k (iand IntKind.i64 p
  (281474976710655 : Int)))) a) (Int.toNat (↑x : Int)) false then (((0 : Int) ≤ (↑x : Int) ∧ (↑x : Int) < (↑(127 : Nat) : Int)) ∧ Int.toNat (↑x : Int) < (127 : Nat) ∧ ((0 : Int) ≤ (↑x : Int) ∧ (↑x : Int) < (↑(127 : Nat) :
  Int)) ∧ Int.toNat (↑x : Int) < (127 : Nat)) ∧ (((0 : Int) ≤ (↑x : Int) ∧ (↑x : Int) < (↑(127 : Nat) : Int)) ∧ Int.toNat (↑x : Int) < (127 : Nat)) ∧ bif List.getD (holesF o) (Int.toNat (↑x : Int)) false then (((0 : Int) ≤
  (↑x : Int) ∧ (↑x : Int) < (↑(127 : Nat) : Int)) ∧ Int.toNat (↑x : Int) < (127 : Nat)) ∧ ∃ (y : Nat), (iand IntKind.i64 p (281474976710655 : Int) = iand IntKind.i64 p (281474976710655 : Int) ∧ z = z ∧ (0 : Nat) = (0 : Nat)
  ∧ (0 : Nat) = (0 : Nat) ∧ (0 : Nat) = (0 : Nat) ∧ (0 : Nat) = (0 : Nat) ∧ (0 : Nat) = (0 : Nat) ∧ IntKind.wrap IntKind.i64 ((↑x : Int) + (1 : Int)) = (↑y : Int) ∧ a = a ∧ true = true ∧ o = o ∧ true = true ∧ k = k ∧ false
  = false ∧ encF (numP k (iand IntKind.i64 p (281474976710655 : Int))) = encF (numP k (iand IntKind.i64 p (281474976710655 : Int))) ∧ false = false ∧ spoilF (encF (numP k (iand IntKind.i64 p (281474976710655 : Int)))) a =
  spoilF (encF (numP k (iand IntKind.i64 p (281474976710655 : Int)))) a ∧ false = false ∧ holesF o = holesF o ∧ false = false ∧ List.set (List.set (List.set (List.take x (votW (spoilF (encF (numP k (p % (281474976710656 :
  Int)))) a) (holesF o) z) ++ List.drop x (List.replicate (127 : Nat) (0 : Int))) (Int.toNat (↑x : Int)) (IntKind.wrap IntKind.i64 ((1 : Int) + IntKind.wrap IntKind.i64 (IntKind.wrap IntKind.i64 z * (↑x : Int)))))
  (Int.toNat (↑x : Int)) (IntKind.wrap IntKind.i64 ((0 : Int) - List.getD (List.set (List.take x (votW (spoilF (encF (numP k (p % (281474976710656 : Int)))) a) (holesF o) z) ++ List.drop x (List.replicate (127 : Nat) (0 :
  Int))) (Int.toNat (↑x : Int)) (IntKind.wrap IntKind.i64 ((1 : Int) + IntKind.wrap IntKind.i64 (IntKind.wrap IntKind.i64 z * (↑x : Int))))) (Int.toNat (↑x : Int)) (0 : Int)))) (Int.toNat (↑x : Int)) (0 : Int) = List.take y
  (votW (spoilF (encF (numP k (p % (281474976710656 : Int)))) a) (holesF o) z) ++ List.drop y (List.replicate (127 : Nat) (0 : Int)) ∧ false = false) ∧ y ≤ (127 : Nat) ∧ (127 : Nat) - y < (127 : Nat) - x else ∃ (y : Nat),
  (iand IntKind.i64 p (281474976710655 : Int) = iand IntKind.i64 p (281474976710655 : Int) ∧ z = z ∧ (0 : Nat) = (0 : Nat) ∧ (0 : Nat) = (0 : Nat) ∧ (0 : Nat) = (0 : Nat) ∧ (0 : Nat) = (0 : Nat) ∧ (0 : Nat) = (0 : Nat) ∧
  IntKind.wrap IntKind.i64 ((↑x : Int) + (1 : Int)) = (↑y : Int) ∧ a = a ∧ true = true ∧ o = o ∧ true = true ∧ k = k ∧ false = false ∧ encF (numP k (iand IntKind.i64 p (281474976710655 : Int))) = encF (numP k (iand
  IntKind.i64 p (281474976710655 : Int))) ∧ false = false ∧ spoilF (encF (numP k (iand IntKind.i64 p (281474976710655 : Int)))) a = spoilF (encF (numP k (iand IntKind.i64 p (281474976710655 : Int)))) a ∧ false = false ∧
  holesF o = holesF o ∧ false = false ∧ List.set (List.set (List.take x (votW (spoilF (encF (numP k (p % (281474976710656 : Int)))) a) (holesF o) z) ++ List.drop x (List.replicate (127 : Nat) (0 : Int))) (Int.toNat (↑x :
  Int)) (IntKind.wrap IntKind.i64 ((1 : Int) + IntKind.wrap IntKind.i64 (IntKind.wrap IntKind.i64 z * (↑x : Int))))) (Int.toNat (↑x : Int)) (IntKind.wrap IntKind.i64 ((0 : Int) - List.getD (List.set (List.take x (votW
  (spoilF (encF (numP k (p % (281474976710656 : Int)))) a) (holesF o) z) ++ List.drop x (List.replicate (127 : Nat) (0 : Int))) (Int.toNat (↑x : Int)) (IntKind.wrap IntKind.i64 ((1 : Int) + IntKind.wrap IntKind.i64
  (IntKind.wrap IntKind.i64 z * (↑x : Int))))) (Int.toNat (↑x : Int)) (0 : Int))) = List.take y (votW (spoilF (encF (numP k (p % (281474976710656 : Int)))) a) (holesF o) z) ++ List.drop y (List.replicate (127 : Nat) (0 :
  Int)) ∧ false = false) ∧ y ≤ (127 : Nat) ∧ (127 : Nat) - y < (127 : Nat) - x else (((0 : Int) ≤ (↑x : Int) ∧ (↑x : Int) < (↑(127 : Nat) : Int)) ∧ Int.toNat (↑x : Int) < (127 : Nat)) ∧ bif List.getD (holesF o) (Int.toNat
  (↑x : Int)) false then (((0 : Int) ≤ (↑x : Int) ∧ (↑x : Int) < (↑(127 : Nat) : Int)) ∧ Int.toNat (↑x : Int) < (127 : Nat)) ∧ ∃ (y : Nat), (iand IntKind.i64 p (281474976710655 : Int) = iand IntKind.i64 p (281474976710655 :
  Int) ∧ z = z ∧ (0 : Nat) = (0 : Nat) ∧ (0 : Nat) = (0 : Nat) ∧ (0 : Nat) = (0 : Nat) ∧ (0 : Nat) = (0 : Nat) ∧ (0 : Nat) = (0 : Nat) ∧ IntKind.wrap IntKind.i64 ((↑x : Int) + (1 : Int)) = (↑y : Int) ∧ a = a ∧ true = true ∧
  o = o ∧ true = true ∧ k = k ∧ false = false ∧ encF (numP k (iand IntKind.i64 p (281474976710655 : Int))) = encF (numP k (iand IntKind.i64 p (281474976710655 : Int))) ∧ false = false ∧ spoilF (encF (numP k (iand
  IntKind.i64 p (281474976710655 : Int)))) a = spoilF (encF (numP k (iand IntKind.i64 p (281474976710655 : Int)))) a ∧ false = false ∧ holesF o = holesF o ∧ false = false ∧ List.set (List.set (List.take x (votW (spoilF
  (encF (numP k (p % (281474976710656 : Int)))) a) (holesF o) z) ++ List.drop x (List.replicate (127 : Nat) (0 : Int))) (Int.toNat (↑x : Int)) (IntKind.wrap IntKind.i64 ((1 : Int) + IntKind.wrap IntKind.i64 (IntKind.wrap
  IntKind.i64 z * (↑x : Int))))) (Int.toNat (↑x : Int)) (0 : Int) = List.take y (votW (spoilF (encF (numP k (p % (281474976710656 : Int)))) a) (holesF o) z) ++ List.drop y (List.replicate (127 : Nat) (0 : Int)) ∧ false =
  false) ∧ y ≤ (127 : Nat) ∧ (127 : Nat) - y < (127 : Nat) - x else ∃ (y : Nat), (iand IntKind.i64 p (281474976710655 : Int) = iand IntKind.i64 p (281474976710655 : Int) ∧ z = z ∧ (0 : Nat) = (0 : Nat) ∧ (0 : Nat) = (0 :
  Nat) ∧ (0 : Nat) = (0 : Nat) ∧ (0 : Nat) = (0 : Nat) ∧ (0 : Nat) = (0 : Nat) ∧ IntKind.wrap IntKind.i64 ((↑x : Int) + (1 : Int)) = (↑y : Int) ∧ a = a ∧ true = true ∧ o = o ∧ true = true ∧ k = k ∧ false = false ∧ encF
  (numP k (iand IntKind.i64 p (281474976710655 : Int))) = encF (numP k (iand IntKind.i64 p (281474976710655 : Int))) ∧ false = false ∧ spoilF (encF (numP k (iand IntKind.i64 p (281474976710655 : Int)))) a = spoilF (encF
  (numP k (iand IntKind.i64 p (281474976710655 : Int)))) a ∧ false = false ∧ holesF o = holesF o ∧ false = false ∧ List.set (List.take x (votW (spoilF (encF (numP k (p % (281474976710656 : Int)))) a) (holesF o) z) ++
  List.drop x (List.replicate (127 : Nat) (0 : Int))) (Int.toNat (↑x : Int)) (IntKind.wrap IntKind.i64 ((1 : Int) + IntKind.wrap IntKind.i64 (IntKind.wrap IntKind.i64 z * (↑x : Int)))) = List.take y (votW (spoilF (encF
  (numP k (p % (281474976710656 : Int)))) a) (holesF o) z) ++ List.drop y (List.replicate (127 : Nat) (0 : Int)) ∧ false = false) ∧ y ≤ (127 : Nat) ∧ (127 : Nat) - y < (127 : Nat) - x else bif decide (far6 (spoilF (encF
  (numP k (iand IntKind.i64 p (281474976710655 : Int)))) a) (holesF o) (encF (numP k (iand IntKind.i64 p (281474976710655 : Int)))) ≤ (20 : Int)) then ∀ (b : Bool), decide (takeE k (List.take x (votW (spoilF (encF (numP k
  (p % (281474976710656 : Int)))) a) (holesF o) z) ++ List.drop x (List.replicate (127 : Nat) (0 : Int))) = (0 : Int)) = b → ((b = true → b = true ∧ b = true) ∧ (b = true → b = true)) ∧ (bif b then decide (takeI k
  (List.take x (votW (spoilF (encF (numP k (p % (281474976710656 : Int)))) a) (holesF o) z) ++ List.drop x (List.replicate (127 : Nat) (0 : Int))) = iand IntKind.i64 p (281474976710655 : Int)) else false) = true ∧ a = a ∧
  true = true ∧ o = o ∧ true = true else ∀ (b : Bool), (!decide (takeE k (List.take x (votW (spoilF (encF (numP k (p % (281474976710656 : Int)))) a) (holesF o) z) ++ List.drop x (List.replicate (127 : Nat) (0 : Int))) = (0
  : Int))) = b → bif bif b then decide (takeI k (List.take x (votW (spoilF (encF (numP k (p % (281474976710656 : Int)))) a) (holesF o) z) ++ List.drop x (List.replicate (127 : Nat) (0 : Int))) = (0 : Int)) else false then
  ((b = true → b = true) ∧ (b = true → b = true) ∧ (true = false → false = true)) ∧ true = true ∧ a = a ∧ true = true ∧ o = o ∧ true = true else bif decide (takeE k (List.take x (votW (spoilF (encF (numP k (p %
  (281474976710656 : Int)))) a) (holesF o) z) ++ List.drop x (List.replicate (127 : Nat) (0 : Int))) = (0 : Int)) then bif !decide (takeI k (List.take x (votW (spoilF (encF (numP k (p % (281474976710656 : Int)))) a) (holesF
  o) z) ++ List.drop x (List.replicate (127 : Nat) (0 : Int))) = iand IntKind.i64 p (281474976710655 : Int)) then ((b = true → b = true) ∧ (b = true → b = true) ∧ mayL (takeI k (List.take x (votW (spoilF (encF (numP k (p %
  (281474976710656 : Int)))) a) (holesF o) z) ++ List.drop x (List.replicate (127 : Nat) (0 : Int)))) = true) ∧ decide (far6 (spoilF (encF (numP k (iand IntKind.i64 p (281474976710655 : Int)))) a) (holesF o) (encF (numP k
  (takeI k (List.take x (votW (spoilF (encF (numP k (p % (281474976710656 : Int)))) a) (holesF o) z) ++ List.drop x (List.replicate (127 : Nat) (0 : Int)))))) ≤ (20 : Int)) = true ∧ a = a ∧ true = true ∧ o = o ∧ true = true
  else ((b = true → b = true) ∧ (b = true → b = true) ∧ (false = true → false = true)) ∧ false = true ∧ a = a ∧ true = true ∧ o = o ∧ true = true else ((b = true → b = true) ∧ (b = true → b = true) ∧ (false = true → false =
  true) ∧ (false = true → false = true)) ∧ false = true ∧ a = a ∧ true = true ∧ o = o ∧ true = true
theorem vcd8 (k : List Int) (p z : Int) (n m : Nat) (a o : List Int) : Pd8 k p z n m a o = vcFun Cd8 (annd8 k p z n m a o) Go.Proofs.Tryd.f8 [⟨.arr 16 (.int .u8), k⟩, ⟨.int .i64, p⟩, ⟨.ref .slice, .slice 0 (.int .u8) [] 0 n⟩, ⟨.ref .slice, .slice 1 (.int .u8) [] 0 m⟩, ⟨.int .u8, z⟩] [⟨true, false, .int .u8, a⟩, ⟨true, false, .int .u8, o⟩] (outd8 k p z n m a o) := by kernel_rfl

end Go.SL.A

/- LoadTakes' condition. -/
namespace Go.SL.A
open Go Go.SL Go.SL.S
set_option maxRecDepth 100000

theorem hwd8 {k : List Int} {p z : Int} {n m : Nat} {a o : List Int} (hw : Go.SL.allP (List.flatMap (fun a : AV => a.t.wf a.x) [⟨.arr 16 (.int .u8), k⟩, ⟨.int .i64, p⟩, ⟨.ref .slice, .slice 0 (.int .u8) [] 0 n⟩, ⟨.ref .slice, .slice 1 (.int .u8) [] 0 m⟩, ⟨.int .u8, z⟩] ++ List.flatMap Blk.wf [⟨true, false, .int .u8, a⟩, ⟨true, false, .int .u8, o⟩])) : 0 ≤ z ∧ z ≤ 255 := by
  simp only [List.flatMap_cons, List.flatMap_nil, Ty.wf, Blk.wf, List.append_nil, List.cons_append, List.nil_append, Go.SL.allP] at hw
  exact ⟨hw.2.2.2.2.1, hw.2.2.2.2.2.1⟩
theorem pured8 (k : List Int) (p z : Int) (n m : Nat) (a o : List Int) (hp : n = a.length ∧ m = o.length) (hz : 0 ≤ z ∧ z ≤ 255) : Pd8 k p z n m a o := by
  obtain ⟨h1, h2⟩ := hp
  unfold Pd8
  simp only [eq_self, true_and, and_true, Int.toNat_natCast, iand48']
  have hp := mod48 p
  generalize p % 281474976710656 = p at *
  rintro _ rfl b1 hb1
  rw [cond_false] at hb1
  refine ⟨by cases b1 <;> simp, ?_⟩
  cases hc : (bif b1 then true else decide (40 < (m : Int))) with
  | true => rw [cond_true]; trivial
  | false =>
    rw [cond_false]
    have hn : ¬ (40 : Int) < n ∧ ¬ (40 : Int) < m := by
      cases b1 with
      | true => cases hc
      | false => exact ⟨of_decide_eq_false hb1, of_decide_eq_false hc⟩
    obtain ⟨hN, -, -⟩ := num_back (k := k) hp
    have wl : (spoilF (encF (numP k p)) a).length = 127 := by rw [spoil_len']; exact enc_len _
    have hl := holes_len' o
    obtain ⟨v1, v2⟩ := votW_take (w := spoilF (encF (numP k p)) a) hl hz.1
    have vl := votW_len (spoilF (encF (numP k p)) a) (holesF o) z
    have va : ∀ i, i < 127 → (votW (spoilF (encF (numP k p)) a) (holesF o) z).getD i 0 = if bw (holesF o) i then 0 else if bw (spoilF (encF (numP k p)) a) i then -(1 + z * (i : Int)) else 1 + z * (i : Int) := fun i hi => votW_at _ _ _ hi
    obtain ⟨s1, s2⟩ := am_same (w := spoilF (encF (numP k p)) a) (v := decW (votW (spoilF (encF (numP k p)) a) (holesF o) z)) (h := holesF o) v2
    generalize votW (spoilF (encF (numP k p)) a) (holesF o) z = v at *
    generalize spoilF (encF (numP k p)) a = w at *
    generalize holesF o = h at *
    refine ⟨may_of hp, ⟨h1, by omega⟩, ⟨h2, by omega⟩, 0, ⟨⟨rfl, rfl⟩, by omega⟩, fun i hi hw => ?_⟩
    clear hw
    have hrl := row_len vl hi
    by_cases hi2 : (i : Int) < 127
    · have hi3 : i < 127 := by omega
      have hv := va i hi3
      have hb : w.getD i false = bw w i := rfl
      have hb2 : h.getD i false = bw h i := rfl
      have m0 : 0 ≤ z * (i : Int) := Int.mul_nonneg hz.1 (by omega)
      have m1 : z * (i : Int) ≤ 255 * 127 := Int.mul_le_mul hz.2 (by omega) (by omega) (by omega)
      have e1 : IntKind.i64.wrap z = z := w64 (by omega) (by omega)
      have e2 : IntKind.i64.wrap (z * (i : Int)) = z * (i : Int) := w64 (by omega) (by omega)
      have e3 : IntKind.i64.wrap (1 + z * (i : Int)) = 1 + z * (i : Int) := w64 (by omega) (by omega)
      have e4 : IntKind.i64.wrap (0 - (1 + z * (i : Int))) = -(1 + z * (i : Int)) := by rw [w64 (by omega) (by omega)]; omega
      rw [decide_eq_true hi2, cond_true, hb, hb2, e1, e2, e3, set_get _ (by omega), e4, set_set, set_set, set_set]
      have bd : (0 ≤ (i : Int) ∧ (i : Int) < ((127 : Nat) : Int)) ∧ i < 127 := ⟨⟨by omega, by omega⟩, by omega⟩
      refine ⟨bd, bd, ?_⟩
      cases hh : bw h i with
      | true =>
        rw [hh, if_pos rfl] at hv
        have rs := row_step vl hi3 hv
        rw [cond_true]
        cases bw w i with
        | true =>
          rw [cond_true]
          exact ⟨⟨bd.1, bd.2, bd.1, bd.2⟩, bd, bd, i + 1, ⟨step_i (by omega), rs⟩, by omega, by omega⟩
        | false =>
          rw [cond_false]
          exact ⟨bd, bd, i + 1, ⟨step_i (by omega), rs⟩, by omega, by omega⟩
      | false =>
        rw [hh, if_neg (by simp)] at hv
        rw [cond_false]
        cases hw2 : bw w i with
        | true =>
          rw [hw2, if_pos rfl] at hv
          have rs := row_step vl hi3 hv
          rw [cond_true]
          exact ⟨⟨bd.1, bd.2, bd.1, bd.2⟩, bd, i + 1, ⟨step_i (by omega), rs⟩, by omega, by omega⟩
        | false =>
          rw [hw2, if_neg (by simp)] at hv
          have rs := row_step vl hi3 hv
          rw [cond_false]
          exact ⟨bd, i + 1, ⟨step_i (by omega), rs⟩, by omega, by omega⟩
    · have : i = 127 := by omega
      subst this
      rw [decide_eq_false hi2, cond_false, row_end vl]
      by_cases hf : far6 w h (encF (numP k p)) ≤ 20
      · obtain ⟨a1, a2⟩ := am_enc hN hf
        obtain ⟨t1, t2⟩ := (take_num (k := k) (v := v) hp k (by rw [v1, s2]; exact a2) (by rw [v1, s1]; exact a1)).1 rfl
        rw [decide_eq_true hf, cond_true, t1, t2]
        rintro _ rfl
        simp
      · rw [decide_eq_false hf, cond_false]
        by_cases he : takeE k v = 0
        · obtain ⟨t1, t2, t3⟩ := take_ok he
          rw [v1] at t1 t2
          rw [s2] at t1
          rw [s1] at t2
          obtain ⟨-, -, hf2⟩ := am_ok t1
          rw [t2] at hf2
          have hne : takeI k v ≠ p := fun e => hf (by rw [e] at hf2; exact hf2)
          rw [he, decide_eq_false hne, decide_eq_true hf2, t3]
          rintro _ rfl
          simp
        · rw [decide_eq_false he, take_bad he]
          rintro _ rfl
          simp
end Go.SL.A

/- Functions do what they are held to do. -/
namespace Go.SL.A
open Go Go.SL Go.SL.S
theorem sndd8 : Sound Go.Proofs.Tryd.prog Gd8 := sndd32.add ⟨_, Go.Proofs.Tryd.func8, by kernel_rfl, by kernel_rfl⟩ (by
  intro args ins out h hp
  unfold spd8 at h
  split at h
  · rename_i k p n m z a o
    cases h
    exact vcFun_ok (C := Cd8) good sndd32 Meth.none mix Go.Proofs.Tryd.func8 (annd8 k p z n m a o) (fun hw => by rw [← vcd8 k p z n m a o]; exact pured8 k p z n m a o hp (hwd8 hw))
  · cases h)

end Go.SL.A

/- LoadTakes: the law returns true, whatever its arguments; each argument reads afterwards as before. No condition. -/
namespace Go.Proofs.YthhfccnhkadkcaaDoor
open Go Go.SL Go.SL.S Go.ChangeShapes Go.WideShapes Go.ChangeAt Go.WideMaps Go.WideElems Go.RowKit
set_option maxRecDepth 100000

theorem parsT : ((Go.Proofs.Tryd.f8.params.toList).all fun t => Nat.blt t Go.Proofs.Tryd.prog.types.size) = true := by kernel_rfl
theorem parsL : Go.Proofs.Tryd.f8.params.toList = [23, 3, 55, 55, 5] := by kernel_rfl
theorem law_pure : ∀ avs bls, argsOk Go.SL.A.D Go.Proofs.Tryd.f8.params.toList 0 avs bls → VCall Go.Proofs.Tryd.prog 8 avs bls ⟨[], .v .bool true, [], []⟩ := by
  rw [parsL]
  intro avs bls h
  replace h : ∃ (t : Ty) (x : t.I) (avs' : List AV), Go.SL.A.D.ty 23 = some t ∧ avs = ⟨t, x⟩ :: avs' ∧ argsOk Go.SL.A.D [3, 55, 55, 5] 0 avs' bls := h
  obtain ⟨t, x0, avs, ht, rfl, h⟩ := h
  obtain rfl : .arr 16 (.int .u8) = t := Option.some.inj ((show (some (.arr 16 (.int .u8)) : Option Ty) = Go.SL.A.D.ty 23 by kernel_rfl).trans ht)
  replace h : ∃ (t : Ty) (x : t.I) (avs' : List AV), Go.SL.A.D.ty 3 = some t ∧ avs = ⟨t, x⟩ :: avs' ∧ argsOk Go.SL.A.D [55, 55, 5] 0 avs' bls := h
  obtain ⟨t, x1, avs, ht, rfl, h⟩ := h
  obtain rfl : .int .i64 = t := Option.some.inj ((show (some (.int .i64) : Option Ty) = Go.SL.A.D.ty 3 by kernel_rfl).trans ht)
  replace h : ∃ (t : Ty) (xs : List t.I) (avs' : List AV) (bls' : List Blk), Go.SL.A.D.ty 5 = some t ∧ avs = ⟨.ref .slice, .slice 0 t [] 0 xs.length⟩ :: avs' ∧ bls = ⟨true, false, t, xs⟩ :: bls' ∧ argsOk Go.SL.A.D [55, 5] 1 avs' bls' := h
  obtain ⟨t, x2, avs, bls, ht, rfl, rfl, h⟩ := h
  obtain rfl : .int .u8 = t := Option.some.inj ((show (some (.int .u8) : Option Ty) = Go.SL.A.D.ty 5 by kernel_rfl).trans ht)
  replace h : ∃ (t : Ty) (xs : List t.I) (avs' : List AV) (bls' : List Blk), Go.SL.A.D.ty 5 = some t ∧ avs = ⟨.ref .slice, .slice 1 t [] 0 xs.length⟩ :: avs' ∧ bls = ⟨true, false, t, xs⟩ :: bls' ∧ argsOk Go.SL.A.D [5] 2 avs' bls' := h
  obtain ⟨t, x3, avs, bls, ht, rfl, rfl, h⟩ := h
  obtain rfl : .int .u8 = t := Option.some.inj ((show (some (.int .u8) : Option Ty) = Go.SL.A.D.ty 5 by kernel_rfl).trans ht)
  replace h : ∃ (t : Ty) (x : t.I) (avs' : List AV), Go.SL.A.D.ty 5 = some t ∧ avs = ⟨t, x⟩ :: avs' ∧ argsOk Go.SL.A.D [] 2 avs' bls := h
  obtain ⟨t, x4, avs, ht, rfl, h⟩ := h
  obtain rfl : .int .u8 = t := Option.some.inj ((show (some (.int .u8) : Option Ty) = Go.SL.A.D.ty 5 by kernel_rfl).trans ht)
  obtain ⟨rfl, rfl⟩ : avs = [] ∧ bls = [] := h
  have q := (Go.SL.A.sndd8 8 Go.SL.A.spd8 rfl).2 [⟨.arr 16 (.int .u8), x0⟩, ⟨.int .i64, x1⟩, ⟨.ref .slice, .slice 0 (.int .u8) [] 0 x2.length⟩, ⟨.ref .slice, .slice 1 (.int .u8) [] 0 x3.length⟩, ⟨.int .u8, x4⟩] [⟨true, false, .int .u8, x2⟩, ⟨true, false, .int .u8, x3⟩] _ rfl (⟨rfl, rfl⟩)
  exact q

abbrev laidL : List (String × DataW Unit) := [("belfry/sip.signs", Rows.laid_belfry_sip_signs)]
theorem lifted (os : Os) (started : os.Started) (H : Type) (enc : TypeId × Value → H) :
    ReturnsInHanded {} Go.Proofs.Tryd.checked os 8 .any (fun w args => (Rows.loadTakesSpec.pre enc Go.Proofs.Tryd.prog Go.Proofs.Tryd.f8 [] false w args ∧ laidMetH Go.Proofs.Tryd.prog laidL w) ∧ sizedMet enc Go.Proofs.Tryd.prog Go.Proofs.Tryd.f8 (OpenSpec.ofChange Rows.loadTakesSpec) false w args) (Rows.loadTakesSpec.post enc Go.Proofs.Tryd.prog Go.Proofs.Tryd.f8 false true false false) := by
  refine returnsInHanded_of_change_and (C := Go.Proofs.Tryd.checked) (X := fun w _ => laidMetH Go.Proofs.Tryd.prog laidL w) (fun _ _ _ hh h => h.of_heap hh) Seat.own started (by kernel_rfl) Go.Proofs.Tryd.func8
    (ChangeSpec.witness_at (enc := enc) (C := Go.Proofs.Tryd.checked) (os := os) (X := fun w _ => laidMetH Go.Proofs.Tryd.prog laidL w) false (Seat.laidWorld os) #[.agg (Array.replicate 16 (.int .u8 0)), .int .i64 0, .slice none 0 0, .slice none 0 0, .int .u8 0] 8 rfl (by kernel_rfl) (by kernel_rfl) (by kernel_rfl) (by kernel_rfl) (by kernel_rfl) (Seat.laidWorld_met os _)) ?_
  intro W base args ds gs before hval hW _ _ hL _
  refine law_calls (D := Go.SL.A.D) Go.SL.A.good Seat.kids Seat.slicesFull (fun t ht => Nat.le_of_ble_eq_true (List.all_eq_true.1 parsT t ht)) (by kernel_rfl) (show Go.Proofs.Tryd.f8.resultTypes = #[4] by kernel_rfl) Go.Proofs.Tryd.underlying4 rfl (fun ds h => ?_) law_pure (fun g a hg => Seat.signs_gl hL g a hg) hval hW
  have h : ds.length = 5 := h
  match ds, h with
  | [_, _, _, _, _], _ => rfl

theorem joined : joinedFacts Go.Proofs.Tryd.prog 8 Go.Proofs.Tryd.f8 Rows.loadTakesSpec Rows.loadTakesRow = true := by
  unfold joinedFacts
  exact (andT (andT (andT (andT (andT (andT (andT (andT (andT (andT (andT (andT (andT (andT (andT (andT (andT (andT (andT (andT (andT (andT (andT (andT (andT (andT (andT (andT (andT (andT (andT (by as_aux_lemma => kernel_rfl) Seat.laidOut) Seat.mapsRowed) (by as_aux_lemma => kernel_rfl)) (by as_aux_lemma => kernel_rfl)) (by as_aux_lemma => kernel_rfl)) Seat.stops) (by as_aux_lemma => kernel_rfl)) Seat.knobs) (by as_aux_lemma => kernel_rfl)) (by as_aux_lemma => kernel_rfl)) (by as_aux_lemma => kernel_rfl)) (by as_aux_lemma => kernel_rfl)) (by as_aux_lemma => kernel_rfl)) (by as_aux_lemma => kernel_rfl)) (by as_aux_lemma => kernel_rfl)) (by as_aux_lemma => kernel_rfl)) (by as_aux_lemma => kernel_rfl)) (by as_aux_lemma => kernel_rfl)) (by as_aux_lemma => kernel_rfl)) (by as_aux_lemma => kernel_rfl)) (by as_aux_lemma => kernel_rfl)) (by as_aux_lemma => kernel_rfl)) (by as_aux_lemma => kernel_rfl)) Seat.heard) Seat.mayEnter) (by rw [Seat.lifts]; rfl)) (by rw [Seat.made]; rfl)) (by as_aux_lemma => kernel_rfl)) (by as_aux_lemma => kernel_rfl)) (by as_aux_lemma => kernel_rfl)) (by as_aux_lemma => kernel_rfl))

theorem loadTakes_holds : Rows.LoadTakesSaid :=
  OpenClaim.holds_of_wide 8 Go.Proofs.Tryd.f8 rfl rfl rfl rfl rfl rfl rfl ⟨rfl, rfl, rfl, rfl, rfl⟩ rfl rfl rfl rfl rfl (by kernel_rfl) Go.Proofs.Tryd.func8 joined
    (of_decide_eq_true (by kernel_rfl)) (by unfold Func.isWrapper; first | (rw [if_pos (by decide +kernel)]; kernel_rfl) | (rw [if_neg (by decide +kernel)]; exact ⟨rfl, rfl⟩))
    (fun os started H enc _ => lifted os started H enc)

theorem noStand : ((Go.Proofs.Tryd.f8.params.toList).all fun t => !Go.Proofs.Tryd.prog.wantsStandIn t) = true := by kernel_rfl
theorem loadTakesCard_holds : Rows.LoadTakesCardSaid :=
  Claim7.holds_tied_plain_at .later [] [.data] true (true, "c88e0687c222961115da2a84d0fc17cee095a0dd0289832c0327b0b27169c1bb") true
    loadTakes_holds (fun _ h => by cases h) (by kernel_rfl) (fun _ h => by cases h) loadTakes_row_tie rfl ⟨rfl, rfl⟩ (by kernel_rfl) rfl
    (fun f fn hf hfn => by
      obtain rfl : f = 8 := Option.some.inj (hf.symm.trans (by kernel_rfl))
      obtain rfl : fn = Go.Proofs.Tryd.f8 := Option.some.inj (hfn.symm.trans Go.Proofs.Tryd.func8)
      refine ⟨by kernel_rfl, fun j t ht => ?_⟩
      have hm := List.all_eq_true.1 noStand t (List.mem_of_getElem? (by rw [Array.getElem?_toList]; exact ht))
      exact (show Go.Proofs.Tryd.prog.wantsStandIn t = false by simpa using hm))
    (by kernel_rfl)

#print axioms loadTakesCard_holds
end Go.Proofs.YthhfccnhkadkcaaDoor
