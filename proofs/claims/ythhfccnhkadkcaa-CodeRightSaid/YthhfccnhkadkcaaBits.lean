/- The functions of the packages bits and crc do what they are held to do. -/
import Derived.Test.YthhfccnhkadkcaaPack
import Derived.Test.YthhfccnhkadkcaaCode

/- Bits laid and read, and a sum: plain functions of what lies in memory. -/
namespace Go.SL.S
open Go Go.SL
/-- The bits of a text. -/
def bitsS (s : ByteArray) : List Int := unB (ofBytes s)
def getV (s : ByteArray) (a n : Int) : Int := if 8 * (ByteArray.size s : Int) - a < n then 0 else getN (bitsS s) a.toNat n.toNat
def getE (s : ByteArray) (a n : Int) : Int := if 8 * (ByteArray.size s : Int) - a < n then 2 else 0
def getA (s : ByteArray) (a n : Int) : Int := if 8 * (ByteArray.size s : Int) - a < n then a else a + n
/-- The bits that were laid, as bytes have them. -/
def wL (xs : List Int) (n : Int) : List Int := (unB xs).take n.toNat
def wrOk (xs : List Int) (n : Int) : Prop := (0 ≤ n ∧ n ≤ 100000) ∧ n.toNat ≤ 8 * xs.length ∧ xs = packB (wL xs n)
def openS (s : ByteArray) : ByteArray := if sealS ((ofBytes s).take (ByteArray.size s - 2)) = ofBytes s then bytesOf ((ofBytes s).take (ByteArray.size s - 2)) else ByteArray.empty
def openE (s : ByteArray) : Int := if sealS ((ofBytes s).take (ByteArray.size s - 2)) = ofBytes s then 0 else 4
def pulV (s : ByteArray) (a k : Int) : List Int := if getN (bitsS s) a.toNat (bitsK k) < countF 4 k then vecF 4 k (getN (bitsS s) a.toNat (bitsK k)) else List.replicate 4 0
def pulE (s : ByteArray) (a k : Int) : Int := if getN (bitsS s) a.toNat (bitsK k) < countF 4 k then 0 else 3
end Go.SL.S

/- Functions and what they are held to do: bound to their code. -/
namespace Go.SL.A
open Go Go.SL Go.SL.S
set_option maxRecDepth 100000
noncomputable def C124 : Ctx := ⟨Go.Proofs.Try.prog, D, G64, (fun _ _ => none), fun _ => []⟩
def ann124 (_s : ByteArray) : Nat → St → Option Ann := fun _ _ => none
def out124 (s : ByteArray) : COut := ⟨[], .v (.ref .ptr) (.ptr 0 (.cons .str (.last (.int .i64))) [0]), [], [⟨false, true, .cons .str (.last (.int .i64)), [(s, 0)]⟩]⟩
def sp124 : Spec := fun args ins => match args, ins with
  | [⟨.str, s⟩], [] => some (out124 s)
  | _, _ => none
def G124 := addG G64 124 sp124
def P124 (s : ByteArray) : Prop :=
  (0 : Nat) = (0 : Nat) ∧ s = s ∧ (0 : Int) = (0 : Int) ∧ false = false
theorem vc124 (s : ByteArray) : P124 s = vcFun C124 (ann124 s) Go.Proofs.Try.f124 [⟨.str, s⟩] [] (out124 s) := by kernel_rfl

noncomputable def C152 : Ctx := ⟨Go.Proofs.Try.prog, D, G124, (fun _ _ => none), fun _ => []⟩
def ann152 (_s : ByteArray) (_a : Int) : Nat → St → Option Ann := fun _ _ => none
def out152 (s : ByteArray) (a : Int) : COut := ⟨[ByteArray.size s ≤ 1000, 0 ≤ a ∧ a ≤ 8000], .v (.int .i64) (8 * (ByteArray.size s : Int) - a), [], []⟩
def sp152 : Spec := fun args ins => match args, ins with
  | [⟨.ref .ptr, .ptr 0 (.cons .str (.last (.int .i64))) [0]⟩], [⟨false, true, .cons .str (.last (.int .i64)), [(s, a)]⟩] => some (out152 s a)
  | _, _ => none
def G152 := addG G124 152 sp152
def P152 (s : ByteArray) (a : Int) : Prop :=
  IntKind.wrap IntKind.i64 (IntKind.wrap IntKind.i64 ((8 : Int) * (↑(ByteArray.size s) : Int)) - a) = (8 : Int) * (↑(ByteArray.size s) : Int) - a ∧ s = s ∧ a = a ∧ false = false
theorem vc152 (s : ByteArray) (a : Int) : P152 s a = vcFun C152 (ann152 s a) Go.Proofs.Try.f152 [⟨.ref .ptr, .ptr 0 (.cons .str (.last (.int .i64))) [0]⟩] [⟨false, true, .cons .str (.last (.int .i64)), [(s, a)]⟩] (out152 s a) := by kernel_rfl

noncomputable def C153 : Ctx := ⟨Go.Proofs.Try.prog, D, G152, (fun _ _ => none), fun _ => []⟩
def ann153 (_s : ByteArray) (_a : Int) : Nat → St → Option Ann := fun _ _ => none
def out153 (s : ByteArray) (a : Int) : COut := ⟨[ByteArray.size s ≤ 1000, 0 ≤ a ∧ a < 8 * (ByteArray.size s : Int)], .v (.int .i64) ((bitsS s).getD a.toNat 0), [(0, some ⟨false, true, .cons .str (.last (.int .i64)), [(s, a + 1)]⟩)], []⟩
def sp153 : Spec := fun args ins => match args, ins with
  | [⟨.ref .ptr, .ptr 0 (.cons .str (.last (.int .i64))) [0]⟩], [⟨false, true, .cons .str (.last (.int .i64)), [(s, a)]⟩] => some (out153 s a)
  | _, _ => none
def G153 := addG G152 153 sp153
def P153 (s : ByteArray) (a : Int) : Prop :=
  ((8 : Int) ≠ (0 : Int) ∧ ((0 : Int) ≤ IntKind.wrap IntKind.i64 (Int.tdiv a (8 : Int)) ∧ IntKind.wrap IntKind.i64 (Int.tdiv a (8 : Int)) < (↑(ByteArray.size s) : Int)) ∧ (8 : Int) ≠ (0 : Int) ∧ (0 : Int) ≤ IntKind.wrap
  IntKind.i64 ((7 : Int) - Int.tmod a (8 : Int))) ∧ iand IntKind.i64 (ishr IntKind.i64 (IntKind.wrap IntKind.i64 (byteAt s (Int.toNat (IntKind.wrap IntKind.i64 (Int.tdiv a (8 : Int)))))) (IntKind.wrap IntKind.i64 ((7 : Int)
  - Int.tmod a (8 : Int)))) (1 : Int) = List.getD (bitsS s) (Int.toNat a) (0 : Int) ∧ s = s ∧ IntKind.wrap IntKind.i64 (a + (1 : Int)) = a + (1 : Int) ∧ false = false
theorem vc153 (s : ByteArray) (a : Int) : P153 s a = vcFun C153 (ann153 s a) Go.Proofs.Try.f153 [⟨.ref .ptr, .ptr 0 (.cons .str (.last (.int .i64))) [0]⟩] [⟨false, true, .cons .str (.last (.int .i64)), [(s, a)]⟩] (out153 s a) := by kernel_rfl

noncomputable def C125 : Ctx := ⟨Go.Proofs.Try.prog, D, G153, (fun _ _ => none), fun _ => []⟩
def ann125 (s : ByteArray) (a n : Int) : Nat → St → Option Ann := fun _ _ => some ⟨Nat, [6, 26], [], fun j => [(27, .v (.int .i64) (j : Int)), (7, .v (.int .i64) (getN (bitsS s) a.toNat j))], fun j => [(0, some ⟨false, true, .cons .str (.last (.int .i64)), [(s, a + j)]⟩)], fun j => (j : Int) ≤ n, fun j => n.toNat - j⟩
def out125 (s : ByteArray) (a n : Int) : COut := ⟨[ByteArray.size s ≤ 1000, 0 ≤ a ∧ a ≤ 8 * (ByteArray.size s : Int), 0 ≤ n ∧ n ≤ 56], .tup [⟨.int .i64, getV s a n⟩, ⟨.int .i64, getE s a n⟩], [(0, some ⟨false, true, .cons .str (.last (.int .i64)), [(s, getA s a n)]⟩)], []⟩
def sp125 : Spec := fun args ins => match args, ins with
  | [⟨.ref .ptr, .ptr 0 (.cons .str (.last (.int .i64))) [0]⟩, ⟨.int .i64, n⟩], [⟨false, true, .cons .str (.last (.int .i64)), [(s, a)]⟩] => some (out125 s a n)
  | _, _ => none
def G125 := addG G153 125 sp125
def P125 (s : ByteArray) (a n : Int) : Prop :=
  ∀ (b : Bool), decide (n < (0 : Int)) = b → (((!b) = true → (!b) = true) ∧ (b = false → (!b) = true)) ∧ bif bif b then true else decide ((56 : Int) < n) then (0 : Int) = getV s a n ∧ (1 : Int) = getE s a n ∧ s = s ∧ a =
  getA s a n ∧ false = false else ∀ (b : Bool), decide ((8 : Int) * (↑(ByteArray.size s) : Int) - a < n) = b → (ByteArray.size s ≤ (1000 : Nat) ∧ ((0 : Int) ≤ a ∧ a ≤ (8000 : Int)) ∧ ((!b) = true → (!b) = true) ∧ (b = false
  → (!b) = true)) ∧ bif bif b then true else false then (0 : Int) = getV s a n ∧ (2 : Int) = getE s a n ∧ s = s ∧ a = getA s a n ∧ false = false else ∃ (x : Nat), (((0 : Nat) = (0 : Nat) ∧ (0 : Int) = getN (bitsS s)
  (Int.toNat a) x ∧ n = n ∧ (0 : Int) = (↑x : Int) ∧ s = s ∧ a = a + (↑x : Int) ∧ false = false) ∧ (↑x : Int) ≤ n) ∧ ∀ (x : Nat), (↑x : Int) ≤ n → (IntKind.min IntKind.i64 ≤ (↑x : Int) ∧ (↑x : Int) ≤ IntKind.max IntKind.i64
  ∧ IntKind.min IntKind.i64 ≤ getN (bitsS s) (Int.toNat a) x ∧ getN (bitsS s) (Int.toNat a) x ≤ IntKind.max IntKind.i64 ∧ ∀ (y : ByteArray × Int), List.Mem y [(s, a + (↑x : Int))] → ByteArray.size (Prod.fst y) ≤
  (9223372036854775807 : Nat) ∧ IntKind.min IntKind.i64 ≤ Prod.snd y ∧ Prod.snd y ≤ IntKind.max IntKind.i64) → bif decide ((↑x : Int) < n) then (ByteArray.size s ≤ (1000 : Nat) ∧ (0 : Int) ≤ a + (↑x : Int) ∧ a + (↑x : Int)
  < (8 : Int) * (↑(ByteArray.size s) : Int)) ∧ ∃ (y : Nat), ((0 : Nat) = (0 : Nat) ∧ IntKind.wrap IntKind.i64 (IntKind.wrap IntKind.i64 ((2 : Int) * getN (bitsS s) (Int.toNat a) x) + List.getD (bitsS s) (Int.toNat (a + (↑x
  : Int))) (0 : Int)) = getN (bitsS s) (Int.toNat a) y ∧ n = n ∧ IntKind.wrap IntKind.i64 ((↑x : Int) + (1 : Int)) = (↑y : Int) ∧ s = s ∧ a + (↑x : Int) + (1 : Int) = a + (↑y : Int) ∧ false = false) ∧ (↑y : Int) ≤ n ∧
  Int.toNat n - y < Int.toNat n - x else getN (bitsS s) (Int.toNat a) x = getV s a n ∧ (0 : Int) = getE s a n ∧ s = s ∧ a + (↑x : Int) = getA s a n ∧ false = false
theorem vc125 (s : ByteArray) (a n : Int) : P125 s a n = vcFun C125 (ann125 s a n) Go.Proofs.Try.f125 [⟨.ref .ptr, .ptr 0 (.cons .str (.last (.int .i64))) [0]⟩, ⟨.int .i64, n⟩] [⟨false, true, .cons .str (.last (.int .i64)), [(s, a)]⟩] (out125 s a n) := by kernel_rfl

noncomputable def C127 : Ctx := ⟨Go.Proofs.Try.prog, D, G125, (fun _ _ => none), fun _ => []⟩
def ann127 (s : ByteArray) (a : Int) : Nat → St → Option Ann := fun _ _ => some ⟨Nat, [3], [0], fun _ => [], fun j => [(1, some ⟨false, true, .cons .str (.last (.int .i64)), [(s, a + j)]⟩)], fun j => a + j ≤ 8 * (ByteArray.size s : Int) ∧ (((bitsS s).drop a.toNat).take j).all (fun b => decide (b ≠ 1)) = true, fun j => 8 * ByteArray.size s - j⟩
def out127 (s : ByteArray) (a : Int) : COut := ⟨[ByteArray.size s ≤ 1000, 0 ≤ a ∧ a ≤ 8 * (ByteArray.size s : Int)], .v .bool (((bitsS s).drop a.toNat).all fun b => decide (b ≠ 1)), [], []⟩
def sp127 : Spec := fun args ins => match args, ins with
  | [⟨.ref .ptr, .ptr 0 (.cons .str (.last (.int .i64))) [0]⟩], [⟨false, true, .cons .str (.last (.int .i64)), [(s, a)]⟩] => some (out127 s a)
  | _, _ => none
def G127 := addG G125 127 sp127
def P127 (s : ByteArray) (a : Int) : Prop :=
  ∃ (x : Nat), (((0 : Nat) = (0 : Nat) ∧ s = s ∧ a = a ∧ false = false ∧ s = s ∧ a = a + (↑x : Int) ∧ false = false) ∧ a + (↑x : Int) ≤ (8 : Int) * (↑(ByteArray.size s) : Int) ∧ (List.all (List.take x (List.drop (Int.toNat
  a) (bitsS s))) fun (b : Int) => decide (b ≠ (1 : Int))) = true) ∧ ∀ (x : Nat), a + (↑x : Int) ≤ (8 : Int) * (↑(ByteArray.size s) : Int) ∧ (List.all (List.take x (List.drop (Int.toNat a) (bitsS s))) fun (b : Int) => decide
  (b ≠ (1 : Int))) = true → (∀ (y : ByteArray × Int), List.Mem y [(s, a + (↑x : Int))] → ByteArray.size (Prod.fst y) ≤ (9223372036854775807 : Nat) ∧ IntKind.min IntKind.i64 ≤ Prod.snd y ∧ Prod.snd y ≤ IntKind.max
  IntKind.i64) → (ByteArray.size s ≤ (1000 : Nat) ∧ (0 : Int) ≤ a + (↑x : Int) ∧ a + (↑x : Int) ≤ (8000 : Int)) ∧ bif decide ((0 : Int) < (8 : Int) * (↑(ByteArray.size s) : Int) - (a + (↑x : Int))) then (ByteArray.size s ≤
  (1000 : Nat) ∧ (0 : Int) ≤ a + (↑x : Int) ∧ a + (↑x : Int) < (8 : Int) * (↑(ByteArray.size s) : Int)) ∧ bif decide (List.getD (bitsS s) (Int.toNat (a + (↑x : Int))) (0 : Int) = (1 : Int)) then (false = List.all (List.drop
  (Int.toNat a) (bitsS s)) fun (b : Int) => decide (b ≠ (1 : Int))) ∧ s = s ∧ a = a ∧ false = false else ∃ (y : Nat), ((0 : Nat) = (0 : Nat) ∧ s = s ∧ a = a ∧ false = false ∧ s = s ∧ a + (↑x : Int) + (1 : Int) = a + (↑y :
  Int) ∧ false = false) ∧ (a + (↑y : Int) ≤ (8 : Int) * (↑(ByteArray.size s) : Int) ∧ (List.all (List.take y (List.drop (Int.toNat a) (bitsS s))) fun (b : Int) => decide (b ≠ (1 : Int))) = true) ∧ (8 : Nat) * ByteArray.size
  s - y < (8 : Nat) * ByteArray.size s - x else (true = List.all (List.drop (Int.toNat a) (bitsS s)) fun (b : Int) => decide (b ≠ (1 : Int))) ∧ s = s ∧ a = a ∧ false = false
theorem vc127 (s : ByteArray) (a : Int) : P127 s a = vcFun C127 (ann127 s a) Go.Proofs.Try.f127 [⟨.ref .ptr, .ptr 0 (.cons .str (.last (.int .i64))) [0]⟩] [⟨false, true, .cons .str (.last (.int .i64)), [(s, a)]⟩] (out127 s a) := by kernel_rfl

noncomputable def C144 : Ctx := ⟨Go.Proofs.Try.prog, D, G127, (fun _ _ => none), fun _ => []⟩
def ann144 (_b _n : Int) (_m : Nat) (_xs : List Int) : Nat → St → Option Ann := fun _ _ => none
def out144 (b n : Int) (m : Nat) (xs : List Int) : COut := ⟨[m = xs.length, wrOk xs n, b = 0 ∨ b = 1], .tup [], [(0, some ⟨false, true, .cons (.ref .slice) (.last (.int .i64)), [(.slice 2 (.int .u8) [] 0 (packB (wL xs n ++ [b])).length, n + 1)]⟩), (1, none)], [⟨false, false, .int .u8, packB (wL xs n ++ [b])⟩]⟩
def sp144 : Spec := fun args ins => match args, ins with
  | [⟨.ref .ptr, .ptr 0 (.cons (.ref .slice) (.last (.int .i64))) [0]⟩, ⟨.int .i64, b⟩], [⟨false, true, .cons (.ref .slice) (.last (.int .i64)), [(.slice 1 (.int .u8) [] 0 m, n)]⟩, ⟨false, false, .int .u8, xs⟩] => some (out144 b n m xs)
  | _, _ => none
def G144 := addG G127 144 sp144
def P144 (b n : Int) (m : Nat) (xs : List Int) : Prop :=
  (8 : Int) ≠ (0 : Int) ∧ bif decide (Int.tmod n (8 : Int) = (0 : Int)) then ((1 : Nat) ≤ (1 : Nat) ∧ (0 : Nat) + m = List.length xs ∧ (m + (1 : Nat)) * (1 : Nat) ≤ (70368744177664 : Nat)) ∧ ((8 : Int) ≠ (0 : Int) ∧ ((0 :
  Int) ≤ IntKind.wrap IntKind.i64 (Int.tdiv n (8 : Int)) ∧ IntKind.wrap IntKind.i64 (Int.tdiv n (8 : Int)) < (↑(m + (1 : Nat)) : Int)) ∧ (0 : Nat) + Int.toNat (IntKind.wrap IntKind.i64 (Int.tdiv n (8 : Int))) < List.length
  (List.drop (0 : Nat) xs ++ seg ((0 : Int) :: List.replicate (nat_lit 0) (0 : Int)) (0 : Nat) (1 : Nat)) ∧ (8 : Int) ≠ (0 : Int) ∧ (0 : Int) ≤ IntKind.wrap IntKind.i64 ((7 : Int) - Int.tmod n (8 : Int)) ∧ ((0 : Int) ≤
  IntKind.wrap IntKind.i64 (Int.tdiv n (8 : Int)) ∧ IntKind.wrap IntKind.i64 (Int.tdiv n (8 : Int)) < (↑(m + (1 : Nat)) : Int)) ∧ (0 : Nat) + Int.toNat (IntKind.wrap IntKind.i64 (Int.tdiv n (8 : Int))) < List.length
  (List.drop (0 : Nat) xs ++ seg ((0 : Int) :: List.replicate (nat_lit 0) (0 : Int)) (0 : Nat) (1 : Nat))) ∧ (0 : Nat) = (0 : Nat) ∧ m + (1 : Nat) = List.length (packB (wL xs n ++ [b])) ∧ IntKind.wrap IntKind.i64 (n + (1 :
  Int)) = n + (1 : Int) ∧ false = false ∧ List.set (List.drop (0 : Nat) xs ++ seg ((0 : Int) :: List.replicate (nat_lit 0) (0 : Int)) (0 : Nat) (1 : Nat)) ((0 : Nat) + Int.toNat (IntKind.wrap IntKind.i64 (Int.tdiv n (8 :
  Int)))) (ior IntKind.u8 (List.getD (List.drop (0 : Nat) xs ++ seg ((0 : Int) :: List.replicate (nat_lit 0) (0 : Int)) (0 : Nat) (1 : Nat)) ((0 : Nat) + Int.toNat (IntKind.wrap IntKind.i64 (Int.tdiv n (8 : Int)))) (0 :
  Int)) (IntKind.wrap IntKind.u8 (ishl IntKind.i64 b (IntKind.wrap IntKind.i64 ((7 : Int) - Int.tmod n (8 : Int)))))) = packB (wL xs n ++ [b]) ∧ false = false else ((8 : Int) ≠ (0 : Int) ∧ ((0 : Int) ≤ IntKind.wrap
  IntKind.i64 (Int.tdiv n (8 : Int)) ∧ IntKind.wrap IntKind.i64 (Int.tdiv n (8 : Int)) < (↑m : Int)) ∧ (0 : Nat) + Int.toNat (IntKind.wrap IntKind.i64 (Int.tdiv n (8 : Int))) < List.length xs ∧ (8 : Int) ≠ (0 : Int) ∧ (0 :
  Int) ≤ IntKind.wrap IntKind.i64 ((7 : Int) - Int.tmod n (8 : Int)) ∧ ((0 : Int) ≤ IntKind.wrap IntKind.i64 (Int.tdiv n (8 : Int)) ∧ IntKind.wrap IntKind.i64 (Int.tdiv n (8 : Int)) < (↑m : Int)) ∧ (0 : Nat) + Int.toNat
  (IntKind.wrap IntKind.i64 (Int.tdiv n (8 : Int))) < List.length xs) ∧ (0 : Nat) = (0 : Nat) ∧ m = List.length (packB (wL xs n ++ [b])) ∧ IntKind.wrap IntKind.i64 (n + (1 : Int)) = n + (1 : Int) ∧ false = false ∧ List.set
  xs ((0 : Nat) + Int.toNat (IntKind.wrap IntKind.i64 (Int.tdiv n (8 : Int)))) (ior IntKind.u8 (List.getD xs ((0 : Nat) + Int.toNat (IntKind.wrap IntKind.i64 (Int.tdiv n (8 : Int)))) (0 : Int)) (IntKind.wrap IntKind.u8
  (ishl IntKind.i64 b (IntKind.wrap IntKind.i64 ((7 : Int) - Int.tmod n (8 : Int)))))) = packB (wL xs n ++ [b]) ∧ false = false
theorem vc144 (b n : Int) (m : Nat) (xs : List Int) : P144 b n m xs = vcFun C144 (ann144 b n m xs) Go.Proofs.Try.f144 [⟨.ref .ptr, .ptr 0 (.cons (.ref .slice) (.last (.int .i64))) [0]⟩, ⟨.int .i64, b⟩] [⟨false, true, .cons (.ref .slice) (.last (.int .i64)), [(.slice 1 (.int .u8) [] 0 m, n)]⟩, ⟨false, false, .int .u8, xs⟩] (out144 b n m xs) := by kernel_rfl

noncomputable def C119 : Ctx := ⟨Go.Proofs.Try.prog, D, G144, (fun _ _ => none), fun _ => []⟩
def ann119 (x n _k : Int) : Nat → St → Option Ann := fun _ _ => some ⟨Nat, [1, 7], [], fun j => [(8, .v (.int .i64) (n - 1 - j))], fun j => [(0, some ⟨false, true, .cons (.ref .slice) (.last (.int .i64)), [(.slice 1 (.int .u8) [] 0 (packB ((bitsN x n.toNat).take j)).length, (j : Int))]⟩), (1, some ⟨false, false, .int .u8, packB ((bitsN x n.toNat).take j)⟩)], fun j => (j : Int) ≤ n, fun j => n.toNat - j⟩
def out119 (x n k : Int) : COut := ⟨[k = 0, 1 ≤ n ∧ n ≤ 56, 0 ≤ x ∧ x < 2 ^ n.toNat], .v (.int .i64) 0, [(0, some ⟨false, true, .cons (.ref .slice) (.last (.int .i64)), [(.slice 1 (.int .u8) [] 0 (packB (bitsN x n.toNat)).length, n)]⟩)], [⟨false, false, .int .u8, packB (bitsN x n.toNat)⟩]⟩
def sp119 : Spec := fun args ins => match args, ins with
  | [⟨.ref .ptr, .ptr 0 (.cons (.ref .slice) (.last (.int .i64))) [0]⟩, ⟨.int .i64, x⟩, ⟨.int .i64, n⟩], [⟨false, true, .cons (.ref .slice) (.last (.int .i64)), [(.nilslice, k)]⟩] => some (out119 x n k)
  | _, _ => none
def G119 := addG G144 119 sp119
def P119 (x n k : Int) : Prop :=
  ∀ (b : Bool), false = b → ∀ (b_1 : Bool), (bif b then true else decide (n < (0 : Int))) = b_1 → (((!b) = true → (!b) = true) ∧ (b = false → (!b) = true) ∧ ((!b_1) = true → (!b_1) = true) ∧ (b_1 = false → (!b_1) = true)) ∧
  bif bif b_1 then true else decide ((56 : Int) < n) then (1 : Int) = (0 : Int) ∧ List.length (packB (bitsN x (Int.toNat n))) = (0 : Nat) ∧ k = n ∧ false = false ∧ packB (bitsN x (Int.toNat n)) = [] else ∀ (b : Bool),
  decide (x < (0 : Int)) = b → (((!b) = true → (!b) = true ∧ (!b) = true ∧ (0 : Int) ≤ n) ∧ ((!b) = true → (!b) = true) ∧ (b = false → (!b) = true)) ∧ bif bif b then true else decide ((0 : Int) < ishr IntKind.i64 x n) then
  (7 : Int) = (0 : Int) ∧ List.length (packB (bitsN x (Int.toNat n))) = (0 : Nat) ∧ k = n ∧ false = false ∧ packB (bitsN x (Int.toNat n)) = [] else ∃ (x_1 : Nat), ((x = x ∧ (0 : Nat) = (0 : Nat) ∧ IntKind.wrap IntKind.i64
  (n - (1 : Int)) = n - (1 : Int) - (↑x_1 : Int) ∧ List.length (packB (List.take x_1 (bitsN x (Int.toNat n)))) = (0 : Nat) ∧ k = (↑x_1 : Int) ∧ false = false ∧ packB (List.take x_1 (bitsN x (Int.toNat n))) = []) ∧ (↑x_1 :
  Int) ≤ n) ∧ ∀ (x_2 : Nat), (↑x_2 : Int) ≤ n → (IntKind.min IntKind.i64 ≤ n - (1 : Int) - (↑x_2 : Int) ∧ n - (1 : Int) - (↑x_2 : Int) ≤ IntKind.max IntKind.i64 ∧ (∀ (y : Ref × Int), List.Mem y [(Ref.slice (1 : Nat) (Ty.int
  IntKind.u8) [] (0 : Nat) (List.length (packB (List.take x_2 (bitsN x (Int.toNat n))))), (↑x_2 : Int))] → IntKind.min IntKind.i64 ≤ Prod.snd y ∧ Prod.snd y ≤ IntKind.max IntKind.i64) ∧ ∀ (y : Int), List.Mem y (packB
  (List.take x_2 (bitsN x (Int.toNat n)))) → IntKind.min IntKind.u8 ≤ y ∧ y ≤ IntKind.max IntKind.u8) → bif decide ((0 : Int) ≤ n - (1 : Int) - (↑x_2 : Int)) then ((0 : Int) ≤ n - (1 : Int) - (↑x_2 : Int) ∧ List.length
  (packB (List.take x_2 (bitsN x (Int.toNat n)))) = List.length (packB (List.take x_2 (bitsN x (Int.toNat n)))) ∧ wrOk (packB (List.take x_2 (bitsN x (Int.toNat n)))) (↑x_2 : Int) ∧ (iand IntKind.i64 (ishr IntKind.i64 x (n
  - (1 : Int) - (↑x_2 : Int))) (1 : Int) = (0 : Int) ∨ iand IntKind.i64 (ishr IntKind.i64 x (n - (1 : Int) - (↑x_2 : Int))) (1 : Int) = (1 : Int))) ∧ ∃ (y : Nat), (x = x ∧ (0 : Nat) = (0 : Nat) ∧ IntKind.wrap IntKind.i64 (n
  - (1 : Int) - (↑x_2 : Int) - (1 : Int)) = n - (1 : Int) - (↑y : Int) ∧ (0 : Nat) = (0 : Nat) ∧ List.length (packB (wL (packB (List.take x_2 (bitsN x (Int.toNat n)))) (↑x_2 : Int) ++ [iand IntKind.i64 (ishr IntKind.i64 x
  (n - (1 : Int) - (↑x_2 : Int))) (1 : Int)])) = List.length (packB (List.take y (bitsN x (Int.toNat n)))) ∧ (↑x_2 : Int) + (1 : Int) = (↑y : Int) ∧ false = false ∧ packB (wL (packB (List.take x_2 (bitsN x (Int.toNat n))))
  (↑x_2 : Int) ++ [iand IntKind.i64 (ishr IntKind.i64 x (n - (1 : Int) - (↑x_2 : Int))) (1 : Int)]) = packB (List.take y (bitsN x (Int.toNat n))) ∧ false = false) ∧ (↑y : Int) ≤ n ∧ Int.toNat n - y < Int.toNat n - x_2 else
  (0 : Int) = (0 : Int) ∧ (0 : Nat) = (0 : Nat) ∧ List.length (packB (List.take x_2 (bitsN x (Int.toNat n)))) = List.length (packB (bitsN x (Int.toNat n))) ∧ (↑x_2 : Int) = n ∧ false = false ∧ packB (List.take x_2 (bitsN x
  (Int.toNat n))) = packB (bitsN x (Int.toNat n)) ∧ false = false
theorem vc119 (x n k : Int) : P119 x n k = vcFun C119 (ann119 x n k) Go.Proofs.Try.f119 [⟨.ref .ptr, .ptr 0 (.cons (.ref .slice) (.last (.int .i64))) [0]⟩, ⟨.int .i64, x⟩, ⟨.int .i64, n⟩] [⟨false, true, .cons (.ref .slice) (.last (.int .i64)), [(.nilslice, k)]⟩] (out119 x n k) := by kernel_rfl

noncomputable def C119b : Ctx := ⟨Go.Proofs.Try.prog, D, G119, (fun _ _ => none), fun _ => []⟩
def ann119b (x n k : Int) (_m : Nat) (xs : List Int) : Nat → St → Option Ann := fun _ _ => some ⟨Nat, [1, 7], [], fun j => [(8, .v (.int .i64) (n - 1 - j))], fun j => [(0, some ⟨false, true, .cons (.ref .slice) (.last (.int .i64)), [(.slice 2 (.int .u8) [] 0 (packB (wL xs k ++ (bitsN x n.toNat).take j)).length, k + j)]⟩), (2, some ⟨false, false, .int .u8, packB (wL xs k ++ (bitsN x n.toNat).take j)⟩)], fun j => (j : Int) ≤ n, fun j => n.toNat - j⟩
def out119b (x n k : Int) (m : Nat) (xs : List Int) : COut := ⟨[m = xs.length, wrOk xs k ∧ k ≤ 1000, 0 ≤ n ∧ n ≤ 56, 0 ≤ x ∧ x < 2 ^ n.toNat], .v (.int .i64) 0, [(0, some ⟨false, true, .cons (.ref .slice) (.last (.int .i64)), [(.slice 2 (.int .u8) [] 0 (packB (wL xs k ++ bitsN x n.toNat)).length, k + n)]⟩), (1, none)], [⟨false, false, .int .u8, packB (wL xs k ++ bitsN x n.toNat)⟩]⟩
def sp119b : Spec := fun args ins => match args, ins with
  | [⟨.ref .ptr, .ptr 0 (.cons (.ref .slice) (.last (.int .i64))) [0]⟩, ⟨.int .i64, x⟩, ⟨.int .i64, n⟩], [⟨false, true, .cons (.ref .slice) (.last (.int .i64)), [(.slice 1 (.int .u8) [] 0 m, k)]⟩, ⟨false, false, .int .u8, xs⟩] => some (out119b x n k m xs)
  | _, _ => none
def G119b := addM G119 119 sp119b
def P119b (x n k : Int) (m : Nat) (xs : List Int) : Prop :=
  ∀ (b : Bool), false = b → ∀ (b_1 : Bool), (bif b then true else decide (n < (0 : Int))) = b_1 → (((!b) = true → (!b) = true) ∧ (b = false → (!b) = true) ∧ ((!b_1) = true → (!b_1) = true) ∧ (b_1 = false → (!b_1) = true)) ∧
  bif bif b_1 then true else decide ((56 : Int) < n) then (1 : Int) = (0 : Int) ∧ (0 : Nat) = (0 : Nat) ∧ m = List.length (packB (wL xs k ++ bitsN x (Int.toNat n))) ∧ k = k + n ∧ false = false ∧ xs = packB (wL xs k ++ bitsN
  x (Int.toNat n)) ∧ false = false else ∀ (b : Bool), decide (x < (0 : Int)) = b → (((!b) = true → (!b) = true ∧ (!b) = true ∧ (0 : Int) ≤ n) ∧ ((!b) = true → (!b) = true) ∧ (b = false → (!b) = true)) ∧ bif bif b then true
  else decide ((0 : Int) < ishr IntKind.i64 x n) then (7 : Int) = (0 : Int) ∧ (0 : Nat) = (0 : Nat) ∧ m = List.length (packB (wL xs k ++ bitsN x (Int.toNat n))) ∧ k = k + n ∧ false = false ∧ xs = packB (wL xs k ++ bitsN x
  (Int.toNat n)) ∧ false = false else ∃ (x_1 : Nat), ((x = x ∧ (0 : Nat) = (0 : Nat) ∧ IntKind.wrap IntKind.i64 (n - (1 : Int)) = n - (1 : Int) - (↑x_1 : Int) ∧ (0 : Nat) = (0 : Nat) ∧ m = List.length (packB (wL xs k ++
  List.take x_1 (bitsN x (Int.toNat n)))) ∧ k = k + (↑x_1 : Int) ∧ false = false ∧ xs = packB (wL xs k ++ List.take x_1 (bitsN x (Int.toNat n))) ∧ false = false) ∧ (↑x_1 : Int) ≤ n) ∧ ∀ (x_2 : Nat), (↑x_2 : Int) ≤ n →
  (IntKind.min IntKind.i64 ≤ n - (1 : Int) - (↑x_2 : Int) ∧ n - (1 : Int) - (↑x_2 : Int) ≤ IntKind.max IntKind.i64 ∧ (∀ (y : Ref × Int), List.Mem y [(Ref.slice (2 : Nat) (Ty.int IntKind.u8) [] (0 : Nat) (List.length (packB
  (wL xs k ++ List.take x_2 (bitsN x (Int.toNat n))))), k + (↑x_2 : Int))] → IntKind.min IntKind.i64 ≤ Prod.snd y ∧ Prod.snd y ≤ IntKind.max IntKind.i64) ∧ ∀ (y : Int), List.Mem y (packB (wL xs k ++ List.take x_2 (bitsN x
  (Int.toNat n)))) → IntKind.min IntKind.u8 ≤ y ∧ y ≤ IntKind.max IntKind.u8) → bif decide ((0 : Int) ≤ n - (1 : Int) - (↑x_2 : Int)) then ((0 : Int) ≤ n - (1 : Int) - (↑x_2 : Int) ∧ List.length (packB (wL xs k ++ List.take
  x_2 (bitsN x (Int.toNat n)))) = List.length (packB (wL xs k ++ List.take x_2 (bitsN x (Int.toNat n)))) ∧ wrOk (packB (wL xs k ++ List.take x_2 (bitsN x (Int.toNat n)))) (k + (↑x_2 : Int)) ∧ (iand IntKind.i64 (ishr
  IntKind.i64 x (n - (1 : Int) - (↑x_2 : Int))) (1 : Int) = (0 : Int) ∨ iand IntKind.i64 (ishr IntKind.i64 x (n - (1 : Int) - (↑x_2 : Int))) (1 : Int) = (1 : Int))) ∧ ∃ (y : Nat), (x = x ∧ (0 : Nat) = (0 : Nat) ∧
  IntKind.wrap IntKind.i64 (n - (1 : Int) - (↑x_2 : Int) - (1 : Int)) = n - (1 : Int) - (↑y : Int) ∧ (0 : Nat) = (0 : Nat) ∧ List.length (packB (wL (packB (wL xs k ++ List.take x_2 (bitsN x (Int.toNat n)))) (k + (↑x_2 :
  Int)) ++ [iand IntKind.i64 (ishr IntKind.i64 x (n - (1 : Int) - (↑x_2 : Int))) (1 : Int)])) = List.length (packB (wL xs k ++ List.take y (bitsN x (Int.toNat n)))) ∧ k + (↑x_2 : Int) + (1 : Int) = k + (↑y : Int) ∧ false =
  false ∧ packB (wL (packB (wL xs k ++ List.take x_2 (bitsN x (Int.toNat n)))) (k + (↑x_2 : Int)) ++ [iand IntKind.i64 (ishr IntKind.i64 x (n - (1 : Int) - (↑x_2 : Int))) (1 : Int)]) = packB (wL xs k ++ List.take y (bitsN x
  (Int.toNat n))) ∧ false = false) ∧ (↑y : Int) ≤ n ∧ Int.toNat n - y < Int.toNat n - x_2 else (0 : Int) = (0 : Int) ∧ (0 : Nat) = (0 : Nat) ∧ List.length (packB (wL xs k ++ List.take x_2 (bitsN x (Int.toNat n)))) =
  List.length (packB (wL xs k ++ bitsN x (Int.toNat n))) ∧ k + (↑x_2 : Int) = k + n ∧ false = false ∧ packB (wL xs k ++ List.take x_2 (bitsN x (Int.toNat n))) = packB (wL xs k ++ bitsN x (Int.toNat n)) ∧ false = false
theorem vc119b (x n k : Int) (m : Nat) (xs : List Int) : P119b x n k m xs = vcFun C119b (ann119b x n k m xs) Go.Proofs.Try.f119 [⟨.ref .ptr, .ptr 0 (.cons (.ref .slice) (.last (.int .i64))) [0]⟩, ⟨.int .i64, x⟩, ⟨.int .i64, n⟩] [⟨false, true, .cons (.ref .slice) (.last (.int .i64)), [(.slice 1 (.int .u8) [] 0 m, k)]⟩, ⟨false, false, .int .u8, xs⟩] (out119b x n k m xs) := by kernel_rfl

noncomputable def C120 : Ctx := ⟨Go.Proofs.Try.prog, D, G119b, (fun _ _ => none), fun _ => []⟩
def ann120 (_n : Int) (_m : Nat) (_xs : List Int) : Nat → St → Option Ann := fun _ _ => none
def out120 (_n : Int) (m : Nat) (xs : List Int) : COut := ⟨[m = xs.length], .v .str (bytesOf xs), [], []⟩
def sp120 : Spec := fun args ins => match args, ins with
  | [⟨.ref .ptr, .ptr 0 (.cons (.ref .slice) (.last (.int .i64))) [0]⟩], [⟨false, true, .cons (.ref .slice) (.last (.int .i64)), [(.slice 1 (.int .u8) [] 0 m, n)]⟩, ⟨false, false, .int .u8, xs⟩] => some (out120 n m xs)
  | _, _ => none
def G120 := addG G119b 120 sp120
def P120 (n : Int) (m : Nat) (xs : List Int) : Prop :=
  (0 : Nat) + m ≤ List.length xs ∧ bytesOf (seg xs (0 : Nat) m) = bytesOf xs ∧ (0 : Nat) = (0 : Nat) ∧ m = m ∧ n = n ∧ false = false ∧ xs = xs ∧ false = false
theorem vc120 (n : Int) (m : Nat) (xs : List Int) : P120 n m xs = vcFun C120 (ann120 n m xs) Go.Proofs.Try.f120 [⟨.ref .ptr, .ptr 0 (.cons (.ref .slice) (.last (.int .i64))) [0]⟩] [⟨false, true, .cons (.ref .slice) (.last (.int .i64)), [(.slice 1 (.int .u8) [] 0 m, n)]⟩, ⟨false, false, .int .u8, xs⟩] (out120 n m xs) := by kernel_rfl

noncomputable def C163 : Ctx := ⟨Go.Proofs.Try.prog, D, G120, (fun _ _ => none), fun _ => []⟩
def ann163 (_r _b : Int) : Nat → St → Option Ann := fun _ _ => none
def out163 (r b : Int) : COut := ⟨[0 ≤ r ∧ r < 65536, b = 0 ∨ b = 1], .tup [], [(0, some ⟨false, true, .last (.int .i64), [bitR r b]⟩)], []⟩
def sp163 : Spec := fun args ins => match args, ins with
  | [⟨.ref .ptr, .ptr 0 (.last (.int .i64)) [0]⟩, ⟨.int .i64, b⟩], [⟨false, true, .last (.int .i64), [r]⟩] => some (out163 r b)
  | _, _ => none
def G163 := addG G120 163 sp163
def P163 (r b : Int) : Prop :=
  (0 : Int) ≤ (15 : Int) ∧ (0 : Int) ≤ (1 : Int) ∧ bif decide (ixor IntKind.i64 (ishr IntKind.i64 r (15 : Int)) b = (1 : Int)) then ixor IntKind.i64 (iand IntKind.i64 (ishl IntKind.i64 r (1 : Int)) (65535 : Int)) (4129 :
  Int) = bitR r b ∧ false = false else iand IntKind.i64 (ishl IntKind.i64 r (1 : Int)) (65535 : Int) = bitR r b ∧ false = false
theorem vc163 (r b : Int) : P163 r b = vcFun C163 (ann163 r b) Go.Proofs.Try.f163 [⟨.ref .ptr, .ptr 0 (.last (.int .i64)) [0]⟩, ⟨.int .i64, b⟩] [⟨false, true, .last (.int .i64), [r]⟩] (out163 r b) := by kernel_rfl

noncomputable def C157 : Ctx := ⟨Go.Proofs.Try.prog, D, G163, (fun _ _ => none), fun _ => []⟩
def ann157 (r : Int) (s : ByteArray) : Nat → St → Option Ann := fun id S => match id with | 0 => some ⟨Nat, [1, 5, 6, 16], [], fun i => [(17, .v (.int .i64) (i : Int))], fun i => [(0, some ⟨false, true, .last (.int .i64), [crcS r ((ofBytes s).take i)]⟩)], fun i => i ≤ ByteArray.size s, fun i => ByteArray.size s - i⟩ | _ => some ⟨Nat, [1, 5, 6, 7, 16, 17], [], fun j => [(8, .v (.int .i64) (7 - (j : Int)))], fun j => [(0, some ⟨false, true, .last (.int .i64), [((bitsN ((ofBytes s).getD (S.i 17).toNat 0) 8).take j).foldl bitR (S.x 0 (.last (.int .i64)))]⟩)], fun j => j ≤ 8, fun j => 8 - j⟩
def out157 (r : Int) (s : ByteArray) : COut := ⟨[0 ≤ r ∧ r < 65536, ByteArray.size s ≤ 1000], .v (.int .i64) (crcS r (ofBytes s)), [], []⟩
def sp157 : Spec := fun args ins => match args, ins with
  | [⟨.int .i64, r⟩, ⟨.str, s⟩], [] => some (out157 r s)
  | _, _ => none
def G157 := addG G163 157 sp157
def P157 (r : Int) (s : ByteArray) : Prop :=
  ∃ (x : Nat), ((s = s ∧ (0 : Nat) = (0 : Nat) ∧ (0 : Nat) = (0 : Nat) ∧ (↑(ByteArray.size s) : Int) = (↑(ByteArray.size s) : Int) ∧ (0 : Int) = (↑x : Int) ∧ iand IntKind.i64 r (65535 : Int) = crcS r (List.take x (ofBytes
  s)) ∧ false = false) ∧ x ≤ ByteArray.size s) ∧ ∀ (x : Nat), x ≤ ByteArray.size s → (IntKind.min IntKind.i64 ≤ (↑x : Int) ∧ (↑x : Int) ≤ IntKind.max IntKind.i64 ∧ ∀ (y : Int), List.Mem y [crcS r (List.take x (ofBytes s))]
  → IntKind.min IntKind.i64 ≤ y ∧ y ≤ IntKind.max IntKind.i64) → bif decide ((↑x : Int) < (↑(ByteArray.size s) : Int)) then ∃ (x_1 : Nat), ((s = s ∧ (0 : Nat) = (0 : Nat) ∧ (0 : Nat) = (0 : Nat) ∧ (↑x : Int) = (↑x : Int) ∧
  (7 : Int) = (7 : Int) - (↑x_1 : Int) ∧ (↑(ByteArray.size s) : Int) = (↑(ByteArray.size s) : Int) ∧ (↑x : Int) = (↑x : Int) ∧ crcS r (List.take x (ofBytes s)) = List.foldl bitR (crcS r (List.take x (ofBytes s))) (List.take
  x_1 (bitsN (List.getD (ofBytes s) (Int.toNat (↑x : Int)) (0 : Int)) (8 : Nat))) ∧ false = false) ∧ x_1 ≤ (8 : Nat)) ∧ ∀ (x_2 : Nat), x_2 ≤ (8 : Nat) → (IntKind.min IntKind.i64 ≤ (7 : Int) - (↑x_2 : Int) ∧ (7 : Int) -
  (↑x_2 : Int) ≤ IntKind.max IntKind.i64 ∧ ∀ (y : Int), List.Mem y [List.foldl bitR (crcS r (List.take x (ofBytes s))) (List.take x_2 (bitsN (List.getD (ofBytes s) (Int.toNat (↑x : Int)) (0 : Int)) (8 : Nat)))] →
  IntKind.min IntKind.i64 ≤ y ∧ y ≤ IntKind.max IntKind.i64) → bif decide ((0 : Int) ≤ (7 : Int) - (↑x_2 : Int)) then (((0 : Int) ≤ (↑x : Int) ∧ (↑x : Int) < (↑(ByteArray.size s) : Int)) ∧ (0 : Int) ≤ (7 : Int) - (↑x_2 :
  Int) ∧ ((0 : Int) ≤ List.foldl bitR (crcS r (List.take x (ofBytes s))) (List.take x_2 (bitsN (List.getD (ofBytes s) (Int.toNat (↑x : Int)) (0 : Int)) (8 : Nat))) ∧ List.foldl bitR (crcS r (List.take x (ofBytes s)))
  (List.take x_2 (bitsN (List.getD (ofBytes s) (Int.toNat (↑x : Int)) (0 : Int)) (8 : Nat))) < (65536 : Int)) ∧ (iand IntKind.i64 (ishr IntKind.i64 (IntKind.wrap IntKind.i64 (byteAt s (Int.toNat (↑x : Int)))) ((7 : Int) -
  (↑x_2 : Int))) (1 : Int) = (0 : Int) ∨ iand IntKind.i64 (ishr IntKind.i64 (IntKind.wrap IntKind.i64 (byteAt s (Int.toNat (↑x : Int)))) ((7 : Int) - (↑x_2 : Int))) (1 : Int) = (1 : Int))) ∧ ∃ (y : Nat), (s = s ∧ (0 : Nat)
  = (0 : Nat) ∧ (0 : Nat) = (0 : Nat) ∧ (↑x : Int) = (↑x : Int) ∧ IntKind.wrap IntKind.i64 ((7 : Int) - (↑x_2 : Int) - (1 : Int)) = (7 : Int) - (↑y : Int) ∧ (↑(ByteArray.size s) : Int) = (↑(ByteArray.size s) : Int) ∧ (↑x :
  Int) = (↑x : Int) ∧ bitR (List.foldl bitR (crcS r (List.take x (ofBytes s))) (List.take x_2 (bitsN (List.getD (ofBytes s) (Int.toNat (↑x : Int)) (0 : Int)) (8 : Nat)))) (iand IntKind.i64 (ishr IntKind.i64 (IntKind.wrap
  IntKind.i64 (byteAt s (Int.toNat (↑x : Int)))) ((7 : Int) - (↑x_2 : Int))) (1 : Int)) = List.foldl bitR (crcS r (List.take x (ofBytes s))) (List.take y (bitsN (List.getD (ofBytes s) (Int.toNat (↑x : Int)) (0 : Int)) (8 :
  Nat))) ∧ false = false) ∧ y ≤ (8 : Nat) ∧ (8 : Nat) - y < (8 : Nat) - x_2 else ∃ (y : Nat), (s = s ∧ (0 : Nat) = (0 : Nat) ∧ (0 : Nat) = (0 : Nat) ∧ (↑(ByteArray.size s) : Int) = (↑(ByteArray.size s) : Int) ∧ IntKind.wrap
  IntKind.i64 ((↑x : Int) + (1 : Int)) = (↑y : Int) ∧ List.foldl bitR (crcS r (List.take x (ofBytes s))) (List.take x_2 (bitsN (List.getD (ofBytes s) (Int.toNat (↑x : Int)) (0 : Int)) (8 : Nat))) = crcS r (List.take y
  (ofBytes s)) ∧ false = false) ∧ y ≤ ByteArray.size s ∧ ByteArray.size s - y < ByteArray.size s - x else crcS r (List.take x (ofBytes s)) = crcS r (ofBytes s)
theorem vc157 (r : Int) (s : ByteArray) : P157 r s = vcFun C157 (ann157 r s) Go.Proofs.Try.f157 [⟨.int .i64, r⟩, ⟨.str, s⟩] [] (out157 r s) := by kernel_rfl

noncomputable def C145 : Ctx := ⟨Go.Proofs.Try.prog, D, G157, (fun _ _ => none), fun _ => []⟩
def ann145 (_s : ByteArray) : Nat → St → Option Ann := fun _ _ => none
def out145 (s : ByteArray) : COut := ⟨[ByteArray.size s ≤ 1000], .v (.int .i64) (crcS 65535 (ofBytes s)), [], []⟩
def sp145 : Spec := fun args ins => match args, ins with
  | [⟨.str, s⟩], [] => some (out145 s)
  | _, _ => none
def G145 := addG G157 145 sp145
def P145 (s : ByteArray) : Prop :=
  (((0 : Int) ≤ (65535 : Int) ∧ (65535 : Int) < (65536 : Int)) ∧ ByteArray.size s ≤ (1000 : Nat)) ∧ crcS (65535 : Int) (ofBytes s) = crcS (65535 : Int) (ofBytes s)
theorem vc145 (s : ByteArray) : P145 s = vcFun C145 (ann145 s) Go.Proofs.Try.f145 [⟨.str, s⟩] [] (out145 s) := by kernel_rfl

noncomputable def C121 : Ctx := ⟨Go.Proofs.Try.prog, D, G145, (fun _ _ => none), fun r => match r with | 1 => [1] | _ => []⟩
def ann121 (_s : ByteArray) : Nat → St → Option Ann := fun _ _ => none
def out121 (s : ByteArray) : COut := ⟨[ByteArray.size s ≤ 1000], .v .str (bytesOf (sealS (ofBytes s))), [], []⟩
def sp121 : Spec := fun args ins => match args, ins with
  | [⟨.str, s⟩], [] => some (out121 s)
  | _, _ => none
def G121 := addG G145 121 sp121
def P121 (s : ByteArray) : Prop :=
  ∀ (n : Int), crcS (65535 : Int) (ofBytes s) = n → ByteArray.size s ≤ (1000 : Nat) ∧ ((0 : Int) ≤ (8 : Int) ∧ (2 : Nat) ≤ (2 : Nat) ∧ ByteArray.size s + ByteArray.size (bytesOf (seg (IntKind.wrap IntKind.u8 (ishr
  IntKind.i64 n (8 : Int)) :: List.set (List.replicate (nat_lit 1) (0 : Int)) (nat_lit 0) (IntKind.wrap IntKind.u8 n)) (0 : Nat) (2 : Nat))) ≤ (9223372036854775807 : Nat)) ∧ ByteArray.append s (bytesOf (seg (IntKind.wrap
  IntKind.u8 (ishr IntKind.i64 n (8 : Int)) :: List.set (List.replicate (nat_lit 1) (0 : Int)) (nat_lit 0) (IntKind.wrap IntKind.u8 n)) (0 : Nat) (2 : Nat))) = bytesOf (sealS (ofBytes s))
theorem vc121 (s : ByteArray) : P121 s = vcFun C121 (ann121 s) Go.Proofs.Try.f121 [⟨.str, s⟩] [] (out121 s) := by kernel_rfl

noncomputable def C123 : Ctx := ⟨Go.Proofs.Try.prog, D, G121, (fun _ _ => none), fun _ => []⟩
def ann123 (_s : ByteArray) : Nat → St → Option Ann := fun _ _ => none
def out123 (s : ByteArray) : COut := ⟨[2 ≤ ByteArray.size s ∧ ByteArray.size s ≤ 1000], .tup [⟨.str, openS s⟩, ⟨.int .i64, openE s⟩], [], []⟩
def sp123 : Spec := fun args ins => match args, ins with
  | [⟨.str, s⟩], [] => some (out123 s)
  | _, _ => none
def G123 := addG G121 123 sp123
def P123 (s : ByteArray) : Prop :=
  bif decide ((↑(ByteArray.size s) : Int) < (2 : Int)) then { data := { toList := [] } } = openS s ∧ (2 : Int) = openE s else ((0 : Int) ≤ IntKind.wrap IntKind.i64 ((↑(ByteArray.size s) : Int) - (2 : Int)) ∧ IntKind.wrap
  IntKind.i64 ((↑(ByteArray.size s) : Int) - (2 : Int)) ≤ (↑(ByteArray.size s) : Int)) ∧ ByteArray.size (ByteArray.extract s (0 : Nat) ((0 : Nat) + (Int.toNat (IntKind.wrap IntKind.i64 ((↑(ByteArray.size s) : Int) - (2 :
  Int))) - (0 : Nat)))) ≤ (1000 : Nat) ∧ bif !decide (bytesOf (sealS (ofBytes (ByteArray.extract s (0 : Nat) ((0 : Nat) + (Int.toNat (IntKind.wrap IntKind.i64 ((↑(ByteArray.size s) : Int) - (2 : Int))) - (0 : Nat)))))) = s)
  then { data := { toList := [] } } = openS s ∧ (4 : Int) = openE s else ByteArray.extract s (0 : Nat) ((0 : Nat) + (Int.toNat (IntKind.wrap IntKind.i64 ((↑(ByteArray.size s) : Int) - (2 : Int))) - (0 : Nat))) = openS s ∧
  (0 : Int) = openE s
theorem vc123 (s : ByteArray) : P123 s = vcFun C123 (ann123 s) Go.Proofs.Try.f123 [⟨.str, s⟩] [] (out123 s) := by kernel_rfl

noncomputable def C126 : Ctx := ⟨Go.Proofs.Try.prog, D, G123, (fun _ _ => none), fun _ => []⟩
def ann126 (_s : ByteArray) (_a _k : Int) : Nat → St → Option Ann := fun _ _ => none
def out126 (s : ByteArray) (a k : Int) : COut := ⟨[ByteArray.size s ≤ 1000, 0 ≤ k ∧ k ≤ 12, 0 ≤ a ∧ a + bitsK k ≤ 8 * (ByteArray.size s : Int)], .tup [⟨.arr 4 (.int .i64), pulV s a k⟩, ⟨.int .i64, pulE s a k⟩], [(0, some ⟨false, true, .cons .str (.last (.int .i64)), [(s, a + bitsK k)]⟩)], []⟩
def sp126 : Spec := fun args ins => match args, ins with
  | [⟨.ref .ptr, .ptr 0 (.cons .str (.last (.int .i64))) [0]⟩, ⟨.int .i64, k⟩], [⟨false, true, .cons .str (.last (.int .i64)), [(s, a)]⟩] => some (out126 s a k)
  | _, _ => none
def G126 := addG G123 126 sp126
def P126 (s : ByteArray) (a k : Int) : Prop :=
  (ByteArray.size s ≤ (1000 : Nat) ∧ ((0 : Int) ≤ a ∧ a ≤ (8 : Int) * (↑(ByteArray.size s) : Int)) ∧ (0 : Int) ≤ bitsF k ∧ bitsF k ≤ (56 : Int)) ∧ bif !decide (getE s a (bitsF k) = (0 : Int)) then (0 : Int) ::
  List.replicate (nat_lit 3) (0 : Int) = pulV s a k ∧ (3 : Int) = pulE s a k ∧ s = s ∧ getA s a (bitsF k) = a + (↑(bitsK k) : Int) ∧ false = false else bif !decide (vecE (4 : Int) k (getV s a (bitsF k)) = (0 : Int)) then (0
  : Int) :: List.replicate (nat_lit 3) (0 : Int) = pulV s a k ∧ (3 : Int) = pulE s a k ∧ s = s ∧ getA s a (bitsF k) = a + (↑(bitsK k) : Int) ∧ false = false else ((4 : Nat) ≤ List.length (vecF (4 : Int) k (getV s a (bitsF
  k))) ∧ (4 : Nat) ≤ List.length (vecF (4 : Int) k (getV s a (bitsF k)))) ∧ seg (vecF (4 : Int) k (getV s a (bitsF k))) (0 : Nat) (4 : Nat) = pulV s a k ∧ (0 : Int) = pulE s a k ∧ s = s ∧ getA s a (bitsF k) = a + (↑(bitsK
  k) : Int) ∧ false = false
theorem vc126 (s : ByteArray) (a k : Int) : P126 s a k = vcFun C126 (ann126 s a k) Go.Proofs.Try.f126 [⟨.ref .ptr, .ptr 0 (.cons .str (.last (.int .i64))) [0]⟩, ⟨.int .i64, k⟩] [⟨false, true, .cons .str (.last (.int .i64)), [(s, a)]⟩] (out126 s a k) := by kernel_rfl

end Go.SL.A

/- Bits of numbers and of texts: plain facts. -/
namespace Go.SL.A
open Go Go.SL Go.SL.S
set_option maxRecDepth 100000

theorem iand_nat (a b : Nat) (ha : a < 2 ^ 63) (hb : b < 2 ^ 63) : iand .i64 (a : Int) (b : Int) = ((a &&& b : Nat) : Int) := by
  have hx : a &&& b < 2 ^ 63 := Nat.lt_of_le_of_lt Nat.and_le_left ha
  unfold iand
  have h1 : (BitVec.ofInt IntKind.i64.bits (a : Int) &&& BitVec.ofInt IntKind.i64.bits (b : Int)).toNat = a &&& b := by
    rw [BitVec.toNat_and, BitVec.ofInt_natCast, BitVec.ofInt_natCast, BitVec.toNat_ofNat, BitVec.toNat_ofNat]
    have e : (2 : Nat) ^ IntKind.i64.bits = 18446744073709551616 := by decide
    rw [e, Nat.mod_eq_of_lt (by omega), Nat.mod_eq_of_lt (by omega)]
  rw [h1]
  exact w64 (by omega) (by omega)
theorem and_one {x : Int} (h : 0 ≤ x ∧ x < 9223372036854775808) : iand .i64 x 1 = x % 2 := by
  obtain ⟨n, rfl⟩ : ∃ n : Nat, x = n := ⟨x.toNat, by omega⟩
  have := iand_nat n 1 (by omega) (by decide)
  rw [Nat.and_one_is_mod] at this
  exact this.trans (by omega)
theorem and_mask16 {x : Int} (h : 0 ≤ x ∧ x < 9223372036854775808) : iand .i64 x 65535 = x % 65536 := by
  obtain ⟨n, rfl⟩ : ∃ n : Nat, x = n := ⟨x.toNat, by omega⟩
  have := iand_nat n 65535 (by omega) (by decide)
  rw [show (65535 : Nat) = 2 ^ 16 - 1 from rfl, Nat.and_two_pow_sub_one_eq_mod] at this
  exact this.trans (by omega)
theorem ishr_eq {x m : Int} (hm : 0 ≤ m ∧ m ≤ 64) : ishr .i64 x m = x / 2 ^ m.toNat := by
  unfold ishr
  have : min m.toNat IntKind.i64.bits = m.toNat := by
    have : IntKind.i64.bits = 64 := rfl
    omega
  rw [this, Int.fdiv_eq_ediv_of_nonneg _ (Int.pow_nonneg (by decide))]
theorem shift_fit {x : Int} (h : 0 ≤ x) (k : Nat) : 0 ≤ x / 2 ^ k ∧ x / 2 ^ k ≤ x :=
  ⟨Int.ediv_nonneg h (Int.pow_nonneg (by decide)), Int.ediv_le_self _ h⟩
theorem bit_val {x m : Int} (h : 0 ≤ x ∧ x < 9223372036854775808) (hm : 0 ≤ m ∧ m ≤ 64) : iand .i64 (ishr .i64 x m) 1 = x / 2 ^ m.toNat % 2 := by
  have := shift_fit h.1 m.toNat
  rw [ishr_eq hm, and_one (by omega)]
theorem pow_le56 {k : Nat} (h : k ≤ 56) : (2 : Int) ^ k ≤ 72057594037927936 := by
  have h1 : 2 ^ k ≤ 2 ^ 56 := Nat.pow_le_pow_right (by decide) h
  have e : ((2 ^ k : Nat) : Int) = (2 : Int) ^ k := by simp
  have e2 : (2 : Nat) ^ 56 = 72057594037927936 := by decide
  omega
theorem byte_get (s : ByteArray) (i : Nat) : byteAt s i = (ofBytes s).getD i 0 := by
  unfold byteAt ofBytes
  rw [List.getD_eq_getElem?_getD, List.getD_eq_getElem?_getD, List.getElem?_map]
  cases s.data.toList[i]? <;> rfl
theorem ofBytes_len (s : ByteArray) : (ofBytes s).length = ByteArray.size s := by unfold ofBytes ByteArray.size; simp
theorem ofBytes_byt (s : ByteArray) : Byt (ofBytes s) := fun x hx => by
  obtain ⟨b, -, rfl⟩ := List.mem_map.1 hx
  have := b.toNat_lt
  omega
theorem bytes_ofBytes (s : ByteArray) : bytesOf (ofBytes s) = s := by
  unfold bytesOf ofBytes
  rw [List.map_map]
  have : ((fun n : Int => UInt8.ofNat n.toNat) ∘ fun b : UInt8 => (b.toNat : Int)) = id := by
    funext b
    show UInt8.ofNat ((b.toNat : Int)).toNat = b
    rw [Int.toNat_natCast]; exact UInt8.ofNat_toNat
  rw [this, List.map_id]
theorem ofBytes_bytes {l : List Int} (h : Byt l) : ofBytes (bytesOf l) = l := by
  unfold bytesOf ofBytes
  simp only
  rw [List.map_map]
  refine (List.map_congr_left (g := id) fun x hx => ?_).trans (List.map_id _)
  have := h x hx
  show ((UInt8.ofNat x.toNat).toNat : Int) = x
  rw [UInt8.toNat_ofNat_of_lt' (by show x.toNat < 256; omega)]
  omega
theorem bytes_size (l : List Int) : ByteArray.size (bytesOf l) = l.length := by unfold bytesOf ByteArray.size; simp
theorem bytes_app (l m : List Int) : ByteArray.append (bytesOf l) (bytesOf m) = bytesOf (l ++ m) := by
  show bytesOf l ++ bytesOf m = _
  refine ByteArray.ext ?_
  rw [ByteArray.data_append]
  unfold bytesOf
  simp
theorem bytes_inj {l m : List Int} (hl : Byt l) (hm : Byt m) (h : bytesOf l = bytesOf m) : l = m := by
  rw [← ofBytes_bytes hl, ← ofBytes_bytes hm, h]
theorem ofBytes_ext (s : ByteArray) (a b : Nat) : ofBytes (ByteArray.extract s a b) = ((ofBytes s).take b).drop a := by
  unfold ofBytes
  rw [ByteArray.data_extract, Array.toList_extract]
  simp only [List.extract_eq_take_drop, List.map_take, List.map_drop, List.drop_take]
theorem bitsS_len (s : ByteArray) : (bitsS s).length = 8 * ByteArray.size s := by unfold bitsS; rw [unB_len, ofBytes_len]
theorem bitsS_bit (s : ByteArray) : Bit (bitsS s) := unB_bit _
theorem bitsS_at (s : ByteArray) {p : Nat} (h : p < 8 * ByteArray.size s) : (bitsS s).getD p 0 = byteAt s (p / 8) / 2 ^ (7 - p % 8) % 2 := by
  unfold bitsS; rw [unB_at _ (by rw [ofBytes_len]; exact h), byte_get]
theorem byte_01 (s : ByteArray) (i : Nat) : 0 ≤ byteAt s i ∧ byteAt s i ≤ 255 := by rw [byte_get]; exact byt_at (ofBytes_byt s) i
theorem getN_zero (U : List Int) (i : Nat) : getN U i 0 = 0 := by unfold getN; rw [List.take_zero]; rfl
theorem getN_succ {U : List Int} {i n : Nat} (h : i + n < U.length) : getN U i (n + 1) = 2 * getN U i n + U.getD (i + n) 0 := by
  unfold getN
  rw [take_snoc' 0 (by rw [List.length_drop]; omega), numB_snoc, getD_drop']
theorem getN_fits {U : List Int} (hU : Bit U) {i n : Nat} (h : i + n ≤ U.length) (hn : n ≤ 56) : 0 ≤ getN U i n ∧ getN U i n < 72057594037927936 := by
  have := getN_fit hU h
  have := pow_le56 hn
  omega
theorem wL_pack {L : List Int} {n : Int} (h : Bit L) (hn : (L.length : Int) = n) : wL (packB L) n = L := by
  unfold wL; rw [show n.toNat = L.length by omega]; exact unB_pack h
theorem wrOk_pack {L : List Int} {n : Int} (h : Bit L) (hn : (L.length : Int) = n) (hb : n ≤ 100000) : wrOk (packB L) n := by
  refine ⟨by omega, by rw [packB_len]; omega, ?_⟩
  rw [wL_pack h hn]
theorem wrOk_get {xs : List Int} {n : Int} (h : wrOk xs n) : ∃ L, Bit L ∧ (L.length : Int) = n ∧ xs = packB L ∧ wL xs n = L ∧ 0 ≤ n ∧ n ≤ 100000 := by
  obtain ⟨h1, h2, h3⟩ := h
  refine ⟨wL xs n, bit_take (unB_bit _) _, ?_, h3, rfl, h1⟩
  unfold wL; rw [List.length_take, unB_len]; omega
theorem take_bit (x : Int) {n j : Nat} (h : j < n) : (bitsN x n).take (j + 1) = (bitsN x n).take j ++ [x / 2 ^ (n - 1 - j) % 2] := by
  rw [take_snoc' 0 (by rw [bitsN_len]; exact h), List.getD_eq_getElem?_getD, bitsN_at x h]; rfl
theorem take_bit_len (x : Int) {n j : Nat} (h : j ≤ n) : ((bitsN x n).take j).length = j := by rw [List.length_take, bitsN_len]; omega
theorem or_bit : ∀ v : Fin 256, ∀ r : Fin 8, ∀ b : Fin 2, v.val % 2 ^ (8 - r.val) = 0 → ior .u8 (v.val : Int) (IntKind.u8.wrap (ishl .i64 (b.val : Int) (7 - (r.val : Int)))) = (v.val : Int) + (b.val : Int) * 2 ^ (7 - r.val) := by decide +kernel
theorem or_bits {v b : Int} {r : Nat} (hv : 0 ≤ v ∧ v ≤ 255) (hr : r < 8) (hb : b = 0 ∨ b = 1) (hm : v % 2 ^ (8 - r) = 0) : ior .u8 v (IntKind.u8.wrap (ishl .i64 b (7 - (r : Int)))) = v + b * 2 ^ (7 - r) := by
  have h := or_bit ⟨v.toNat, by omega⟩ ⟨r, hr⟩ ⟨b.toNat, by omega⟩ (by
    show v.toNat % 2 ^ (8 - r) = 0
    have e : ((2 ^ (8 - r) : Nat) : Int) = (2 : Int) ^ (8 - r) := by simp
    rw [← e] at hm
    have hv2 : ((v.toNat : Nat) : Int) = v := by omega
    rw [← hv2] at hm
    exact_mod_cast hm)
  rw [show ((v.toNat : Nat) : Int) = v by omega, show ((b.toNat : Nat) : Int) = b by omega] at h
  exact h
end Go.SL.A

/- Bits laid and read, and a sum. -/
namespace Go.SL.A
open Go Go.SL Go.SL.S
set_option maxRecDepth 100000

theorem pure124 (s : ByteArray) : P124 s := by unfold P124; simp only [eq_self, and_self]
theorem pure152 (s : ByteArray) (a : Int) (hp : ByteArray.size s ≤ 1000 ∧ 0 ≤ a ∧ a ≤ 8000) : P152 s a := by
  unfold P152
  rw [w64 (n := 8 * (ByteArray.size s : Int)) (by omega) (by omega), w64 (by omega) (by omega)]
  simp only [eq_self, and_self]
theorem pure153 (s : ByteArray) (a : Int) (hp : ByteArray.size s ≤ 1000 ∧ 0 ≤ a ∧ a < 8 * (ByteArray.size s : Int)) : P153 s a := by
  obtain ⟨h1, h2, h3⟩ := hp
  unfold P153
  rw [Int.tdiv_eq_ediv_of_nonneg h2, Int.tmod_eq_emod_of_nonneg h2, w64 (n := a / 8) (by omega) (by omega), w64 (n := 7 - a % 8) (by omega) (by omega), w64 (n := a + 1) (by omega) (by omega)]
  have hb := byte_01 s (a / 8).toNat
  rw [w64 (n := byteAt s (a / 8).toNat) (by omega) (by omega), bit_val (by omega) (by omega), bitsS_at s (by omega)]
  refine ⟨⟨by decide, ⟨by omega, by omega⟩, by decide, by omega⟩, ?_, by simp only [eq_self, and_self]⟩
  rw [show (a / 8).toNat = a.toNat / 8 by omega, show (7 - a % 8).toNat = 7 - a.toNat % 8 by omega]
theorem pure125 (s : ByteArray) (a n : Int) (hp : ByteArray.size s ≤ 1000 ∧ (0 ≤ a ∧ a ≤ 8 * (ByteArray.size s : Int)) ∧ 0 ≤ n ∧ n ≤ 56) : P125 s a n := by
  obtain ⟨h1, h2, h3⟩ := hp
  unfold P125
  simp only [eq_self, true_and, and_true]
  rintro b hb
  have hb : false = b := by rw [← hb]; exact (decide_eq_false (by omega)).symm
  subst hb
  refine ⟨by simp, ?_⟩
  rw [cond_false, decide_eq_false (show ¬ 56 < n by omega), cond_false]
  rintro b hb
  by_cases hs : 8 * (ByteArray.size s : Int) - a < n
  · rw [decide_eq_true hs] at hb
    subst hb
    rw [cond_true, cond_true]
    refine ⟨⟨h1, ⟨h2.1, by omega⟩, by simp⟩, ?_⟩
    unfold getV getE getA
    rw [if_pos hs, if_pos hs, if_pos hs]
    exact ⟨rfl, rfl, rfl⟩
  · rw [decide_eq_false hs] at hb
    subst hb
    rw [cond_false, cond_false]
    refine ⟨⟨h1, ⟨h2.1, by omega⟩, by simp⟩, 0, ⟨⟨(getN_zero _ _).symm, rfl, by omega⟩, by omega⟩, fun x hx _ => ?_⟩
    have hU := bitsS_len s
    by_cases hxn : (x : Int) < n
    · rw [decide_eq_true hxn, cond_true]
      have hf := getN_fits (bitsS_bit s) (i := a.toNat) (n := x) (by omega) (by omega)
      have hb01 := bit_01 (bitsS_bit s) (a.toNat + x)
      rw [show (a + (x : Int)).toNat = a.toNat + x by omega, w64 (n := 2 * getN (bitsS s) a.toNat x) (by omega) (by omega), w64 (by omega) (by omega)]
      exact ⟨⟨h1, by omega, by omega⟩, x + 1, ⟨(getN_succ (by omega)).symm, step_i (by omega), by omega⟩, by omega, by omega⟩
    · rw [decide_eq_false hxn, cond_false]
      unfold getV getE getA
      rw [if_neg hs, if_neg hs, if_neg hs, show x = n.toNat by omega]
      exact ⟨rfl, rfl, by omega⟩
theorem pure127 (s : ByteArray) (a : Int) (hp : ByteArray.size s ≤ 1000 ∧ 0 ≤ a ∧ a ≤ 8 * (ByteArray.size s : Int)) : P127 s a := by
  obtain ⟨h1, h2, h3⟩ := hp
  unfold P127
  simp only [eq_self, true_and, and_true]
  have hU := bitsS_len s
  have hD : ((bitsS s).drop a.toNat).length = 8 * ByteArray.size s - a.toNat := by rw [List.length_drop]; omega
  refine ⟨0, ⟨by omega, by omega, by rw [List.take_zero]; rfl⟩, fun x hx _ => ?_⟩
  obtain ⟨x1, x2⟩ := hx
  refine ⟨⟨h1, by omega, by omega⟩, ?_⟩
  by_cases hlt : 0 < 8 * (ByteArray.size s : Int) - (a + (x : Int))
  · rw [decide_eq_true hlt, cond_true]
    refine ⟨⟨h1, by omega, by omega⟩, ?_⟩
    have e : (bitsS s).getD (a + (x : Int)).toNat 0 = ((bitsS s).drop a.toNat).getD x 0 := by rw [getD_drop', show (a + (x : Int)).toNat = a.toNat + x by omega]
    rw [e]
    by_cases hb : ((bitsS s).drop a.toNat).getD x 0 = 1
    · rw [decide_eq_true hb, cond_true]
      symm
      refine List.all_eq_false.2 ⟨_, getD_mem (f := (bitsS s).drop a.toNat) (k := x) (d := 0) (by omega), ?_⟩
      rw [hb]; decide
    · rw [decide_eq_false hb, cond_false]
      refine ⟨x + 1, by omega, ⟨by omega, ?_⟩, by omega⟩
      rw [take_snoc' 0 (by omega), List.all_append, x2, Bool.true_and, List.all_cons, List.all_nil, Bool.and_true]
      exact decide_eq_true hb
  · rw [decide_eq_false hlt, cond_false]
    rw [List.take_of_length_le (by omega)] at x2
    exact x2.symm
theorem pure144 (b n : Int) (m : Nat) (xs : List Int) (hp : m = xs.length ∧ wrOk xs n ∧ (b = 0 ∨ b = 1)) : P144 b n m xs := by
  obtain ⟨rfl, hw, hb⟩ := hp
  obtain ⟨L, hL, hn, rfl, hwl, h0, h1⟩ := wrOk_get hw
  unfold P144
  simp only [eq_self, true_and, and_true]
  rw [hwl, Int.tdiv_eq_ediv_of_nonneg h0, Int.tmod_eq_emod_of_nonneg h0, w64 (n := n / 8) (by omega) (by omega), w64 (n := 7 - n % 8) (by omega) (by omega), w64 (n := n + 1) (by omega) (by omega)]
  simp only [eq_self, true_and]
  have hpl := packB_len L
  have e0 : seg ((0 : Int) :: List.replicate 0 0) 0 1 = [0] := rfl
  rw [e0, List.drop_zero]
  simp only [Nat.zero_add]
  rw [show (n / 8).toNat = L.length / 8 by omega]
  have hr : L.length % 8 < 8 := Nat.mod_lt _ (by omega)
  have e7 : (7 : Int) - n % 8 = 7 - ((L.length % 8 : Nat) : Int) := by omega
  refine ⟨by decide, ?_⟩
  by_cases h8 : n % 8 = 0
  · rw [decide_eq_true h8, cond_true, packB_snoc0 b (by omega), List.length_append, List.length_append]
    have h8' : L.length % 8 = 0 := by omega
    refine ⟨⟨by omega, trivial, by omega⟩, ⟨by decide, ⟨by omega, by omega⟩, by simp; omega, by decide, by omega, ⟨by omega, by omega⟩, by simp; omega⟩, by simp, ?_⟩
    have hi : L.length / 8 = (packB L).length := by omega
    rw [e7, h8', hi, List.getD_eq_getElem?_getD, List.getElem?_concat_length, List.set_append_right _ _ (Nat.le_refl _), Nat.sub_self]
    rcases hb with rfl | rfl <;> rfl
  · rw [decide_eq_false h8, cond_false, packB_snoc1 b (by omega), List.length_set]
    refine ⟨⟨by decide, ⟨by omega, by omega⟩, by omega, by decide, by omega, ⟨by omega, by omega⟩, by omega⟩, rfl, ?_⟩
    rw [e7, or_bits (byt_at (packB_byt hL) _) hr hb (by rw [packB_getD L (by omega)]; exact byteB_low rfl)]
theorem shr_zero {x n : Int} (hn : 0 ≤ n ∧ n ≤ 56) (hx : 0 ≤ x ∧ x < 2 ^ n.toNat) : ishr .i64 x n = 0 := by
  rw [ishr_eq (by omega)]; exact Int.ediv_eq_zero_of_lt hx.1 hx.2
theorem put_bit {x n : Int} (hn : 0 ≤ n ∧ n ≤ 56) (hx : 0 ≤ x ∧ x < 2 ^ n.toNat) {j : Nat} (hj : (j : Int) < n) : iand .i64 (ishr .i64 x (n - 1 - (j : Int))) 1 = x / 2 ^ (n.toNat - 1 - j) % 2 := by
  have := pow_le56 (k := n.toNat) (by omega)
  rw [bit_val (by omega) (by omega), show (n - 1 - (j : Int)).toNat = n.toNat - 1 - j by omega]
theorem pure119 (x n k : Int) (hp : k = 0 ∧ (1 ≤ n ∧ n ≤ 56) ∧ 0 ≤ x ∧ x < 2 ^ n.toNat) : P119 x n k := by
  obtain ⟨rfl, hn, hx⟩ := hp
  unfold P119
  simp only [eq_self, true_and, and_true]
  have hz := shr_zero (n := n) (by omega) hx
  rintro _ rfl b hb
  rw [cond_false] at hb
  have hb : false = b := by rw [← hb]; exact (decide_eq_false (by omega)).symm
  subst hb
  refine ⟨by simp, ?_⟩
  rw [cond_false, decide_eq_false (show ¬ 56 < n by omega), cond_false]
  rintro b hb
  have hb : false = b := by rw [← hb]; exact (decide_eq_false (by omega)).symm
  subst hb
  refine ⟨by simp; omega, ?_⟩
  rw [hz, cond_false, decide_eq_false (show ¬ (0 : Int) < 0 by omega), cond_false]
  refine ⟨0, ⟨⟨by rw [w64 (by omega) (by omega)]; omega, by rw [List.take_zero]; rfl, rfl, by rw [List.take_zero]; rfl⟩, by omega⟩, fun j hj _ => ?_⟩
  have hB := bitsN_bit x n.toNat
  by_cases hjn : (j : Int) < n
  · have hlen := take_bit_len x (n := n.toNat) (j := j) (by omega)
    rw [decide_eq_true (show 0 ≤ n - 1 - (j : Int) by omega), cond_true, put_bit (by omega) hx hjn, wL_pack (bit_take hB j) (by omega), ← take_bit x (by omega), w64 (by omega) (by omega)]
    exact ⟨⟨by omega, wrOk_pack (bit_take hB j) (by omega) (by omega), by omega⟩, j + 1, ⟨by omega, rfl, by omega, rfl⟩, by omega, by omega⟩
  · rw [decide_eq_false (show ¬ 0 ≤ n - 1 - (j : Int) by omega), cond_false, List.take_of_length_le (by rw [bitsN_len]; omega)]
    exact ⟨rfl, by omega, rfl⟩
theorem pure119b (x n k : Int) (m : Nat) (xs : List Int) (hp : m = xs.length ∧ (wrOk xs k ∧ k ≤ 1000) ∧ (0 ≤ n ∧ n ≤ 56) ∧ 0 ≤ x ∧ x < 2 ^ n.toNat) : P119b x n k m xs := by
  obtain ⟨rfl, ⟨hw, hk⟩, hn, hx⟩ := hp
  obtain ⟨L, hL, hkl, rfl, hwl, h0, h1⟩ := wrOk_get hw
  unfold P119b
  simp only [eq_self, true_and, and_true]
  rw [hwl]
  have hz := shr_zero (n := n) (by omega) hx
  rintro _ rfl b hb
  rw [cond_false] at hb
  have hb : false = b := by rw [← hb]; exact (decide_eq_false (by omega)).symm
  subst hb
  refine ⟨by simp, ?_⟩
  rw [cond_false, decide_eq_false (show ¬ 56 < n by omega), cond_false]
  rintro b hb
  have hb : false = b := by rw [← hb]; exact (decide_eq_false (by omega)).symm
  subst hb
  refine ⟨by simp; omega, ?_⟩
  rw [hz, cond_false, decide_eq_false (show ¬ (0 : Int) < 0 by omega), cond_false]
  refine ⟨0, ⟨⟨by rw [w64 (by omega) (by omega)]; omega, by rw [List.take_zero, List.append_nil], by omega, by rw [List.take_zero, List.append_nil]⟩, by omega⟩, fun j hj _ => ?_⟩
  have hB := bitsN_bit x n.toNat
  by_cases hjn : (j : Int) < n
  · have hlen := take_bit_len x (n := n.toNat) (j := j) (by omega)
    have hLj := bit_app hL (bit_take hB j)
    rw [decide_eq_true (show 0 ≤ n - 1 - (j : Int) by omega), cond_true, put_bit (by omega) hx hjn, wL_pack hLj (by rw [List.length_append]; omega), List.append_assoc, ← take_bit x (by omega), w64 (by omega) (by omega)]
    exact ⟨⟨by omega, wrOk_pack hLj (by rw [List.length_append]; omega) (by omega), by omega⟩, j + 1, ⟨by omega, rfl, by omega, rfl⟩, by omega, by omega⟩
  · rw [decide_eq_false (show ¬ 0 ≤ n - 1 - (j : Int) by omega), cond_false, List.take_of_length_le (by rw [bitsN_len]; omega)]
    exact ⟨rfl, by omega, rfl⟩
theorem pure120 (n : Int) (m : Nat) (xs : List Int) (hp : m = xs.length) : P120 n m xs := by
  subst hp
  unfold P120
  simp only [eq_self, and_true]
  refine ⟨by omega, ?_⟩
  unfold seg; rw [List.drop_zero, List.take_of_length_le (Nat.le_refl _)]
theorem pure163 (r b : Int) (hp : (0 ≤ r ∧ r < 65536) ∧ (b = 0 ∨ b = 1)) : P163 r b := by
  obtain ⟨hr, hb⟩ := hp
  unfold P163
  have e1 : ishr .i64 r 15 = r / 32768 := by rw [ishr_eq (by omega)]; rfl
  have e2 : ishl .i64 r 1 = 2 * r := by
    have : ishl .i64 r 1 = IntKind.i64.wrap (r * 2) := rfl
    rw [this, w64 (by omega) (by omega)]; omega
  have e3 : decide (ixor .i64 (r / 32768) b = 1) = !decide (r / 32768 = b) := by
    rcases (show r / 32768 = 0 ∨ r / 32768 = 1 by omega) with h | h <;> rw [h] <;> rcases hb with rfl | rfl <;> decide
  rw [e1, e2, e3, and_mask16 (by omega)]
  unfold bitR
  refine ⟨by decide, by decide, ?_⟩
  by_cases h : r / 32768 = b
  · rw [decide_eq_true h, Bool.not_true, cond_false, if_pos h]; exact ⟨rfl, rfl⟩
  · rw [decide_eq_false h, Bool.not_false, cond_true, if_neg h]; exact ⟨rfl, rfl⟩
theorem foldR_fit : ∀ {L : List Int} {r : Int}, Bit L → (0 ≤ r ∧ r < 65536) → 0 ≤ L.foldl bitR r ∧ L.foldl bitR r < 65536
  | [], _, _, h => h
  | b :: L, _r, hB, h => foldR_fit (L := L) (fun x hx => hB x (List.mem_cons_of_mem _ hx)) (bitR_fit h (hB b List.mem_cons_self))
theorem crc_step (r : Int) {xs : List Int} {i : Nat} (h : i < xs.length) : crcS r (xs.take (i + 1)) = byteR (crcS r (xs.take i)) (xs.getD i 0) := by
  rw [take_snoc' 0 h, crcS_app]; rfl
theorem pure157 (r : Int) (s : ByteArray) (hp : (0 ≤ r ∧ r < 65536) ∧ ByteArray.size s ≤ 1000) : P157 r s := by
  obtain ⟨hr, hs⟩ := hp
  have hl := ofBytes_len s
  unfold P157
  simp only [eq_self, true_and, and_true]
  refine ⟨0, ⟨⟨rfl, ?_⟩, by omega⟩, fun i hi _ => ?_⟩
  · rw [and_mask16 (by omega), List.take_zero]
    show r % 65536 = r
    omega
  by_cases h : (i : Int) < (ByteArray.size s : Int)
  · rw [decide_eq_true h, cond_true]
    have hc := crcS_fit (xs := (ofBytes s).take i) hr
    have hst := crc_step r (xs := ofBytes s) (i := i) (by omega)
    rw [Int.toNat_natCast, byte_get]
    have hb := byt_at (ofBytes_byt s) i
    generalize (ofBytes s).getD i 0 = c at *
    generalize crcS r ((ofBytes s).take i) = q at *
    have hB := bitsN_bit c 8
    refine ⟨0, ⟨⟨rfl, rfl⟩, by omega⟩, fun j hj _ => ?_⟩
    have hf := foldR_fit (bit_take hB j) hc
    by_cases h7 : 0 ≤ 7 - (j : Int)
    · rw [decide_eq_true h7, cond_true, w64 (n := c) (by omega) (by omega), bit_val (by omega) (by omega), w64 (by omega) (by omega)]
      have e : (7 - (j : Int)).toNat = 8 - 1 - j := by omega
      rw [e]
      refine ⟨⟨⟨by omega, h⟩, h7, hf, by omega⟩, j + 1, ⟨by omega, ?_⟩, by omega, by omega⟩
      rw [take_bit c (by omega), List.foldl_append]; rfl
    · have : j = 8 := by omega
      subst this
      rw [decide_eq_false h7, cond_false, List.take_of_length_le (by rw [bitsN_len]; omega)]
      exact ⟨i + 1, ⟨step_i (by omega), by rw [hst]; rfl⟩, by omega, by omega⟩
  · rw [decide_eq_false h, cond_false, List.take_of_length_le (by omega)]
theorem pure145 (s : ByteArray) (hp : ByteArray.size s ≤ 1000) : P145 s := by
  unfold P145; exact ⟨⟨by decide, hp⟩, rfl⟩
theorem seal_byt {xs : List Int} (h : Byt xs) : Byt (sealS xs) := by
  have := crcS_fit (xs := xs) (r := 65535) (by omega)
  intro x hx
  unfold sealS at hx
  rcases List.mem_append.1 hx with hx | hx
  · exact h x hx
  · simp only [List.mem_cons, List.mem_nil_iff, or_false] at hx
    rcases hx with rfl | rfl <;> omega
theorem pure121 (s : ByteArray) (hp : ByteArray.size s ≤ 1000) : P121 s := by
  unfold P121
  rintro n hn
  have hf := crcS_fit (xs := ofBytes s) (r := 65535) (by omega)
  rw [hn] at hf
  have e1 : IntKind.u8.wrap (ishr .i64 n 8) = n / 256 := by
    have : ishr .i64 n 8 = n / 256 := by rw [ishr_eq (by omega)]; rfl
    rw [this]
    have : IntKind.u8.wrap (n / 256) = n / 256 % 256 := by simp [IntKind.wrap, IntKind.bits, IntKind.signed]
    rw [this]; omega
  have e2 : IntKind.u8.wrap n = n % 256 := by simp [IntKind.wrap, IntKind.bits, IntKind.signed]
  rw [e1, e2]
  have e3 : seg (n / 256 :: List.set (List.replicate 1 0) 0 (n % 256)) 0 2 = [n / 256, n % 256] := rfl
  rw [e3, bytes_size]
  refine ⟨hp, ⟨by decide, by decide, by simp; omega⟩, ?_⟩
  conv => lhs; rw [← bytes_ofBytes s]
  rw [bytes_app]
  unfold sealS
  rw [hn]
theorem pure123 (s : ByteArray) (hp : 2 ≤ ByteArray.size s ∧ ByteArray.size s ≤ 1000) : P123 s := by
  unfold P123
  rw [decide_eq_false (show ¬ (ByteArray.size s : Int) < 2 by omega), cond_false, w64 (n := (ByteArray.size s : Int) - 2) (by omega) (by omega)]
  have e : 0 + (((ByteArray.size s : Int) - 2).toNat - 0) = ByteArray.size s - 2 := by omega
  rw [e, ofBytes_ext, List.drop_zero]
  have hB : Byt ((ofBytes s).take (ByteArray.size s - 2)) := fun x hx => ofBytes_byt s x (List.mem_of_mem_take hx)
  have hx : ByteArray.extract s 0 (ByteArray.size s - 2) = bytesOf ((ofBytes s).take (ByteArray.size s - 2)) := by
    have := ofBytes_ext s 0 (ByteArray.size s - 2)
    rw [List.drop_zero] at this
    rw [← this, bytes_ofBytes]
  rw [hx, bytes_size, List.length_take, ofBytes_len]
  refine ⟨⟨by omega, by omega⟩, by omega, ?_⟩
  unfold openS openE
  by_cases h : sealS ((ofBytes s).take (ByteArray.size s - 2)) = ofBytes s
  · rw [if_pos h, if_pos h, h, bytes_ofBytes, decide_eq_true rfl, Bool.not_true, cond_false]
    exact ⟨rfl, rfl⟩
  · have hne : ¬ bytesOf (sealS ((ofBytes s).take (ByteArray.size s - 2))) = s := fun he => h (by
      have := congrArg ofBytes he
      rw [ofBytes_bytes (seal_byt hB)] at this
      exact this)
    rw [if_neg h, if_neg h, decide_eq_false hne, Bool.not_false, cond_true]
    exact ⟨rfl, rfl⟩
theorem bitsK_le {k : Int} (h : 0 ≤ k ∧ k ≤ 12) : bitsK k ≤ 56 := by
  rcases (show k = 0 ∨ k = 1 ∨ k = 2 ∨ k = 3 ∨ k = 4 ∨ k = 5 ∨ k = 6 ∨ k = 7 ∨ k = 8 ∨ k = 9 ∨ k = 10 ∨ k = 11 ∨ k = 12 by omega) with rfl | rfl | rfl | rfl | rfl | rfl | rfl | rfl | rfl | rfl | rfl | rfl | rfl <;> decide +kernel
theorem pure126 (s : ByteArray) (a k : Int) (hp : ByteArray.size s ≤ 1000 ∧ (0 ≤ k ∧ k ≤ 12) ∧ 0 ≤ a ∧ a + bitsK k ≤ 8 * (ByteArray.size s : Int)) : P126 s a k := by
  obtain ⟨h1, hk, h2, h3⟩ := hp
  unfold P126
  have hb := cost_bits k
  have hle := bitsK_le hk
  rw [hb]
  have hn : ¬ 8 * (ByteArray.size s : Int) - a < ((bitsK k : Nat) : Int) := by omega
  have e1 : getE s a ((bitsK k : Nat) : Int) = 0 := by unfold getE; rw [if_neg hn]
  have e2 : getA s a ((bitsK k : Nat) : Int) = a + ((bitsK k : Nat) : Int) := by unfold getA; rw [if_neg hn]
  have e3 : getV s a ((bitsK k : Nat) : Int) = getN (bitsS s) a.toNat (bitsK k) := by unfold getV; rw [if_neg hn, Int.toNat_natCast]
  rw [e1, e2, e3]
  have hf := getN_fit (bitsS_bit s) (i := a.toNat) (n := bitsK k) (by rw [bitsS_len]; omega)
  refine ⟨⟨h1, ⟨h2, by omega⟩, by omega, by omega⟩, ?_⟩
  rw [decide_eq_true rfl, Bool.not_true, cond_false]
  unfold pulV pulE
  generalize getN (bitsS s) a.toNat (bitsK k) = i at *
  by_cases hi : i < countF 4 k
  · obtain ⟨r1, r2, -, -⟩ := row_of hk hf.1 hi
    rw [if_pos hi, if_pos hi, r1, decide_eq_true rfl, Bool.not_true, cond_false]
    refine ⟨⟨by omega, by omega⟩, ?_, rfl, by simp only [eq_self, and_self]⟩
    unfold seg; rw [List.drop_zero, List.take_of_length_le (by omega)]
  · have r1 : vecE 4 k i = 7 := by
      unfold vecE
      rw [if_pos (may_iff.2 (by omega)), if_neg (by omega)]
    rw [if_neg hi, if_neg hi, r1, decide_eq_false (by decide), Bool.not_false, cond_true]
    exact ⟨rfl, rfl, by simp only [eq_self, and_self]⟩
end Go.SL.A

/- Functions do what they are held to do. -/
namespace Go.SL.A
open Go Go.SL Go.SL.S
theorem snd124 : Sound Go.Proofs.Try.prog G124 := snd64.add ⟨_, Go.Proofs.Try.func124, by kernel_rfl, by kernel_rfl⟩ (by
  intro args ins out h hp
  unfold sp124 at h
  split at h
  · rename_i s
    cases h
    exact vcFun_ok (C := C124) good snd64 Meth.none mix Go.Proofs.Try.func124 (ann124 s) (fun hw => by rw [← vc124 s]; exact pure124 s)
  · cases h)

theorem snd152 : Sound Go.Proofs.Try.prog G152 := snd124.add ⟨_, Go.Proofs.Try.func152, by kernel_rfl, by kernel_rfl⟩ (by
  intro args ins out h hp
  unfold sp152 at h
  split at h
  · rename_i s a
    cases h
    exact vcFun_ok (C := C152) good snd124 Meth.none mix Go.Proofs.Try.func152 (ann152 s a) (fun hw => by rw [← vc152 s a]; exact pure152 s a hp)
  · cases h)

theorem snd153 : Sound Go.Proofs.Try.prog G153 := snd152.add ⟨_, Go.Proofs.Try.func153, by kernel_rfl, by kernel_rfl⟩ (by
  intro args ins out h hp
  unfold sp153 at h
  split at h
  · rename_i s a
    cases h
    exact vcFun_ok (C := C153) good snd152 Meth.none mix Go.Proofs.Try.func153 (ann153 s a) (fun hw => by rw [← vc153 s a]; exact pure153 s a hp)
  · cases h)

theorem snd125 : Sound Go.Proofs.Try.prog G125 := snd153.add ⟨_, Go.Proofs.Try.func125, by kernel_rfl, by kernel_rfl⟩ (by
  intro args ins out h hp
  unfold sp125 at h
  split at h
  · rename_i n s a
    cases h
    exact vcFun_ok (C := C125) good snd153 Meth.none mix Go.Proofs.Try.func125 (ann125 s a n) (fun hw => by rw [← vc125 s a n]; exact pure125 s a n hp)
  · cases h)

theorem snd127 : Sound Go.Proofs.Try.prog G127 := snd125.add ⟨_, Go.Proofs.Try.func127, by kernel_rfl, by kernel_rfl⟩ (by
  intro args ins out h hp
  unfold sp127 at h
  split at h
  · rename_i s a
    cases h
    exact vcFun_ok (C := C127) good snd125 Meth.none mix Go.Proofs.Try.func127 (ann127 s a) (fun hw => by rw [← vc127 s a]; exact pure127 s a hp)
  · cases h)

theorem snd144 : Sound Go.Proofs.Try.prog G144 := snd127.add ⟨_, Go.Proofs.Try.func144, by kernel_rfl, by kernel_rfl⟩ (by
  intro args ins out h hp
  unfold sp144 at h
  split at h
  · rename_i b m n xs
    cases h
    exact vcFun_ok (C := C144) good snd127 Meth.none mix Go.Proofs.Try.func144 (ann144 b n m xs) (fun hw => by rw [← vc144 b n m xs]; exact pure144 b n m xs hp)
  · cases h)

theorem snd119 : Sound Go.Proofs.Try.prog G119 := snd144.add ⟨_, Go.Proofs.Try.func119, by kernel_rfl, by kernel_rfl⟩ (by
  intro args ins out h hp
  unfold sp119 at h
  split at h
  · rename_i x n k
    cases h
    exact vcFun_ok (C := C119) good snd144 Meth.none mix Go.Proofs.Try.func119 (ann119 x n k) (fun hw => by rw [← vc119 x n k]; exact pure119 x n k hp)
  · cases h)

theorem snd119b : Sound Go.Proofs.Try.prog G119b := snd119.addM ⟨_, Go.Proofs.Try.func119, by kernel_rfl, by kernel_rfl⟩ (by
  intro args ins out h hp
  unfold sp119b at h
  split at h
  · rename_i x n m k xs
    cases h
    exact vcFun_ok (C := C119b) good snd119 Meth.none mix Go.Proofs.Try.func119 (ann119b x n k m xs) (fun hw => by rw [← vc119b x n k m xs]; exact pure119b x n k m xs hp)
  · cases h)

theorem snd120 : Sound Go.Proofs.Try.prog G120 := snd119b.add ⟨_, Go.Proofs.Try.func120, by kernel_rfl, by kernel_rfl⟩ (by
  intro args ins out h hp
  unfold sp120 at h
  split at h
  · rename_i m n xs
    cases h
    exact vcFun_ok (C := C120) good snd119b Meth.none mix Go.Proofs.Try.func120 (ann120 n m xs) (fun hw => by rw [← vc120 n m xs]; exact pure120 n m xs hp)
  · cases h)

theorem snd163 : Sound Go.Proofs.Try.prog G163 := snd120.add ⟨_, Go.Proofs.Try.func163, by kernel_rfl, by kernel_rfl⟩ (by
  intro args ins out h hp
  unfold sp163 at h
  split at h
  · rename_i b r
    cases h
    exact vcFun_ok (C := C163) good snd120 Meth.none mix Go.Proofs.Try.func163 (ann163 r b) (fun hw => by rw [← vc163 r b]; exact pure163 r b hp)
  · cases h)

theorem snd157 : Sound Go.Proofs.Try.prog G157 := snd163.add ⟨_, Go.Proofs.Try.func157, by kernel_rfl, by kernel_rfl⟩ (by
  intro args ins out h hp
  unfold sp157 at h
  split at h
  · rename_i r s
    cases h
    exact vcFun_ok (C := C157) good snd163 Meth.none mix Go.Proofs.Try.func157 (ann157 r s) (fun hw => by rw [← vc157 r s]; exact pure157 r s hp)
  · cases h)

theorem snd145 : Sound Go.Proofs.Try.prog G145 := snd157.add ⟨_, Go.Proofs.Try.func145, by kernel_rfl, by kernel_rfl⟩ (by
  intro args ins out h hp
  unfold sp145 at h
  split at h
  · rename_i s
    cases h
    exact vcFun_ok (C := C145) good snd157 Meth.none mix Go.Proofs.Try.func145 (ann145 s) (fun hw => by rw [← vc145 s]; exact pure145 s hp)
  · cases h)

theorem snd121 : Sound Go.Proofs.Try.prog G121 := snd145.add ⟨_, Go.Proofs.Try.func121, by kernel_rfl, by kernel_rfl⟩ (by
  intro args ins out h hp
  unfold sp121 at h
  split at h
  · rename_i s
    cases h
    exact vcFun_ok (C := C121) good snd145 Meth.none mix Go.Proofs.Try.func121 (ann121 s) (fun hw => by rw [← vc121 s]; exact pure121 s hp)
  · cases h)

theorem snd123 : Sound Go.Proofs.Try.prog G123 := snd121.add ⟨_, Go.Proofs.Try.func123, by kernel_rfl, by kernel_rfl⟩ (by
  intro args ins out h hp
  unfold sp123 at h
  split at h
  · rename_i s
    cases h
    exact vcFun_ok (C := C123) good snd121 Meth.none mix Go.Proofs.Try.func123 (ann123 s) (fun hw => by rw [← vc123 s]; exact pure123 s hp)
  · cases h)

theorem snd126 : Sound Go.Proofs.Try.prog G126 := snd123.add ⟨_, Go.Proofs.Try.func126, by kernel_rfl, by kernel_rfl⟩ (by
  intro args ins out h hp
  unfold sp126 at h
  split at h
  · rename_i k s a
    cases h
    exact vcFun_ok (C := C126) good snd123 Meth.none mix Go.Proofs.Try.func126 (ann126 s a k) (fun hw => by rw [← vc126 s a k]; exact pure126 s a k hp)
  · cases h)

end Go.SL.A
