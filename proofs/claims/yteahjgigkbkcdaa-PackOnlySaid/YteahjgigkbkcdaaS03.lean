/- Part 3 of what the statements of this seat need: a logic of states for the code of the model, the functions that they reach, and what these are held to do: no condition. -/
import GoSem.ClaimJoined
import Derived.ProofKit
import Derived.KernelRfl
import Derived.JoinedOf

/- S-logic, part 27: closed facts that rows ask, in pieces that are small. -/
namespace Go.SL
open Go

def cutW : List Char := ([99, 117, 116] : List Nat).map Char.ofNat

theorem cutW_eq : "cut".toList = cutW := by decide
theorem cutW_gc : (cutW == "gc".toList) = false := by decide
theorem cutW_spec : (cutW == "spec".toList) = false := by decide
theorem cutW_carried : (cutW == "carried".toList) = false := by decide
theorem cutW_strip (rest : List (List Char)) : stripLifts liftWords (cutW :: rest) = ([], cutW :: rest) := by rfl

theorem make_cut {P : Program} {rest : List (List Char)} (h : behindMainWord (wordsSigns P.initOrder.toList) = cutW :: rest) : P.make = some .cut := by
  unfold Program.make
  rw [h]
  simp only [cutW_eq, cutW_gc, cutW_spec]
  simp

theorem lifts_cut {P : Program} {rest : List (List Char)} (h : behindMainWord (wordsSigns P.initOrder.toList) = cutW :: rest) : P.liftsFinal = false := by
  unfold Program.liftsFinal Program.headLifts
  rw [h]
  simp only [cutW_strip, cutW_eq]
  have e : (some cutW == some "carried".toList) = false := by decide
  simp
  intro e; exact absurd e (by decide)

theorem mayEnter_cut {P : Program} {rest : List (List Char)} (h : behindMainWord (wordsSigns P.initOrder.toList) = cutW :: rest) (h1 : P.laysLater = false) (h2 : P.bearsReflect = false) (h3 : P.doorFits [] = true) : P.mayEnter = true := by
  unfold Program.mayEnter
  rw [h]
  simp only [cutW_strip, h1, h2, h3, cutW_eq, cutW_gc, cutW_spec, cutW_carried]
  simp

theorem andT {a b : Bool} (ha : a = true) (hb : b = true) : (a && b) = true := by rw [ha, hb]; rfl
theorem beqT {α : Type} [BEq α] [ReflBEq α] {a b : α} (h : a = b) : (a == b) = true := by rw [h]; exact BEq.rfl

end Go.SL
