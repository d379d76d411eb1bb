/- The functions of the package pack do what they are held to do. -/
import Derived.Lib.Repeat
import Derived.Shelf.Strings.Repeat
import Derived.Test.YthhfccnhkadkcaaProg
import Derived.Test.YthhfccnhkadkcaaBits
import Derived.Test.YthhfccnhkadkcaaKb
import Derived.Test.YthhfccnhkadkcaaCode

/- Packets laid and read: plain functions. -/
namespace Go.SL.S
open Go Go.SL
/-- A text so many times. -/
def repS (s : ByteArray) (n : Int) : ByteArray := ⟨(Lib.repeatL s.data.toList n.toNat).toArray⟩
def readV (s : ByteArray) : Int × SHQ := (readS (ofBytes s)).1
def readE (s : ByteArray) : Int := (readS (ofBytes s)).2
end Go.SL.S
namespace Go.SL.A
open Go Go.SL Go.SL.S
set_option maxRecDepth 100000
def sp122 : Spec := fun args ins => match args, ins with
  | [⟨.str, s⟩, ⟨.int .i64, n⟩], [] => some ⟨[0 ≤ n ∧ n ≤ 1000, ByteArray.size s ≤ 1000], .v .str (repS s n), [], []⟩
  | _, _ => none
def G122 := addG G126 122 sp122
end Go.SL.A

/- The library's contract for strings.Repeat, laid at this translation (as the kit's tool prints it); and as a function that is held to do something. -/
namespace Go.Proofs
open Go.Shelf
def Try.lays105_ren : Go.Shelf.Ren := ⟨fun | 105 => 122 | 212 => 146 | 99 => 147 | 165 => 148 | 166 => 149 | 170 => 150 | 169 => 151 | 263 => 158 | 264 => 159 | 206 => 160 | 240 => 161 | 241 => 162 | 276 => 164 | 277 => 165 | n => n, fun | 9 => 9 | 3 => 3 | 4 => 4 | 20 => 20 | 0 => 0 | 46 => 129 | 109 => 201 | 5 => 5 | 72 => 206 | 76 => 209 | 51 => 42 | 146 => 214 | 53 => 86 | 148 => 216 | 70 => 204 | 37 => 87 | 75 => 208 | 127 => 218 | 164 => 222 | 80 => 176 | n => n, fun | n => n⟩
theorem Try.lays105 : Go.Proofs.Lays.n105 Try.prog Try.lays105_ren := {
  mixed := by kernel_rfl
  f99 := Try.func147.trans (congrArg some (by kernel_rfl))
  f105 := Try.func122.trans (congrArg some (by kernel_rfl))
  f165 := Try.func148.trans (congrArg some (by kernel_rfl))
  f166 := Try.func149.trans (congrArg some (by kernel_rfl))
  f169 := Try.func151.trans (congrArg some (by kernel_rfl))
  f170 := Try.func150.trans (congrArg some (by kernel_rfl))
  f206 := Try.func160.trans (congrArg some (by kernel_rfl))
  f212 := Try.func146.trans (congrArg some (by kernel_rfl))
  f240 := Try.func161.trans (congrArg some (by kernel_rfl))
  f241 := Try.func162.trans (congrArg some (by kernel_rfl))
  f263 := Try.func158.trans (congrArg some (by kernel_rfl))
  f264 := Try.func159.trans (congrArg some (by kernel_rfl))
  f276 := Try.func164.trans (congrArg some (by kernel_rfl))
  f277 := Try.func165.trans (congrArg some (by kernel_rfl))
  t0 := Try.underlying0
  a0 := Try.isAgg0
  z0 := Try.sizeOf0
  v0 := Try.zeroValue0
  t3 := Try.underlying3
  a3 := Try.isAgg3
  z3 := Try.sizeOf3
  v3 := Try.zeroValue3
  t4 := Try.underlying4
  a4 := Try.isAgg4
  z4 := Try.sizeOf4
  v4 := Try.zeroValue4
  t5 := Try.underlying5
  a5 := Try.isAgg5
  z5 := Try.sizeOf5
  v5 := Try.zeroValue5
  t9 := Try.underlying9
  a9 := Try.isAgg9
  z9 := Try.sizeOf9
  v9 := Try.zeroValue9
  t20 := Try.underlying20
  a20 := Try.isAgg20
  z20 := Try.sizeOf20
  v20 := Try.zeroValue20
  t37 := Try.underlying87
  a37 := Try.isAgg87
  z37 := Try.sizeOf87
  v37 := Try.zeroValue87
  t46 := Try.underlying129
  a46 := Try.isAgg129
  z46 := Try.sizeOf129
  v46 := Try.zeroValue129
  t51 := Try.underlying42
  a51 := Try.isAgg42
  z51 := Try.sizeOf42
  v51 := Try.zeroValue42
  t53 := Try.underlying86
  a53 := Try.isAgg86
  z53 := Try.sizeOf86
  v53 := Try.zeroValue86
  t70 := Try.underlying204
  a70 := Try.isAgg204
  z70 := Try.sizeOf204
  v70 := Try.zeroValue204
  t72 := Try.underlying206
  a72 := Try.isAgg206
  z72 := Try.sizeOf206
  v72 := Try.zeroValue206
  t75 := Try.underlying208
  a75 := Try.isAgg208
  z75 := Try.sizeOf208
  v75 := Try.zeroValue208
  t76 := Try.underlying209
  a76 := Try.isAgg209
  z76 := Try.sizeOf209
  v76 := Try.zeroValue209
  t109 := Try.underlying201
  a109 := Try.isAgg201
  z109 := Try.sizeOf201
  v109 := Try.zeroValue201
  t127 := Try.underlying218
  a127 := Try.isAgg218
  z127 := Try.sizeOf218
  v127 := Try.zeroValue218
  t146 := Try.underlying214
  a146 := Try.isAgg214
  z146 := Try.sizeOf214
  v146 := Try.zeroValue214
  t148 := Try.underlying216
  a148 := Try.isAgg216
  z148 := Try.sizeOf216
  v148 := Try.zeroValue216
  t164 := Try.underlying222
  a164 := Try.isAgg222
  z164 := Try.sizeOf222
  v164 := Try.zeroValue222 }
theorem Try.Builder_Extra_105 : Builder.Extra Try.prog Try.lays105_ren := {
  sizeBuilder := by kernel_rfl
  liesBuilder := by kernel_rfl
  t5 := Try.underlying5
  a5 := Try.isAgg5
  z5 := Try.sizeOf5
  v5 := Try.zeroValue5
  infoByte := by kernel_rfl
  cellsByte := by kernel_rfl
  sizeByte := by kernel_rfl
  neB5 := by decide }
open Go.RowKit Go.Lib in
theorem Try.strings_Repeat (s : ByteArray) (c : Nat) (w : World) (hc : c ≤ 9223372036854775807) (hlen : s.size * c ≤ 140737488355328) :
    Calls Try.prog 122 #[.string s, .int .i64 c] w fun e w' => e = .returned (.string ⟨(Lib.repeatL s.data.toList c).toArray⟩) ∧ Below w.heap.size w w' := Any.strings_Repeat Try.lays105 Try.Builder_Extra_105 s c w hc hlen
end Go.Proofs
namespace Go.SL.A
open Go Go.SL Go.SL.S
set_option maxRecDepth 100000
theorem rep_calls (s : ByteArray) (n : Int) (ps : List Prop) (h0 : 0 ≤ n) (h1 : n ≤ 1000) (h2 : ByteArray.size s ≤ 1000) : VCall Go.Proofs.Try.prog 122 [⟨.str, s⟩, ⟨.int .i64, n⟩] [] ⟨ps, .v .str (repS s n), [], []⟩ := by
  have hle : ByteArray.size s * n.toNat ≤ 140737488355328 := Nat.le_trans (Nat.mul_le_mul h2 (show n.toNat ≤ 1000 by omega)) (by decide)
  have e : ((n.toNat : Nat) : Int) = n := by omega
  refine VCall.of_calls [.string s, .int .i64 n] (.string (repS s n)) (fun E us hu => ?_) (fun E => ?_) (fun w => ?_)
  · obtain ⟨v, vs, rfl, g1, g2⟩ := hu
    obtain ⟨v2, vs2, rfl, g3, g4⟩ := g2
    obtain ⟨c1, c2⟩ := g1
    obtain ⟨c3, c4⟩ := g3
    rw [show vs2 = [] from g4]
    have c1 := (List.cons.inj c1).1
    have c3 := (List.cons.inj c3).1
    rw [c1, c3]
  · refine ⟨rfl, ?_⟩
    show ByteArray.size (repS s n) ≤ big
    have : ByteArray.size (repS s n) = n.toNat * s.data.toList.length := by unfold repS ByteArray.size; simp [Lib.repeatL_length]
    have h3 : s.data.toList.length = ByteArray.size s := by unfold ByteArray.size; simp
    rw [this, h3, Nat.mul_comm]
    exact Nat.le_trans hle (by decide)
  · have := Go.Proofs.Try.strings_Repeat s n.toNat w (by omega) hle
    rw [e] at this
    exact this
theorem snd122 : Sound Go.Proofs.Try.prog G122 := snd126.add ⟨_, Go.Proofs.Try.func122, by kernel_rfl, by kernel_rfl⟩ (by
  intro args ins out h hp
  unfold sp122 at h
  split at h
  · cases h
    exact rep_calls _ _ _ hp.1.1 hp.1.2 hp.2
  · cases h)
end Go.SL.A

/- Functions and what they are held to do: bound to their code. -/
namespace Go.SL.A
open Go Go.SL Go.SL.S
set_option maxRecDepth 100000
noncomputable def C81 : Ctx := ⟨Go.Proofs.Try.prog, D, G122, (fun _ _ => none), fun _ => []⟩
def ann81 (s : List Int × List (List Int)) (n : Int) : Nat → St → Option Ann := fun _ _ => some ⟨Nat, [6, 28], [1], fun i => [(29, .v (.int .i64) (i : Int))], fun _ => [], fun i => i ≤ 8 ∧ ((List.range i).all fun b => decide (pulsesF (s.2.getD b (List.replicate 4 0)) = (giveV s.1 (giveB n)).getD b 0)) = true, fun i => 8 - i⟩
def out81 (s : List Int × List (List Int)) (n : Int) : COut := ⟨[], .v .bool (packR s n), [], []⟩
def sp81 : Spec := fun args ins => match args, ins with
  | [⟨(.cons (.arr 8 (.int .i64)) (.last (.arr 8 (.arr 4 (.int .i64))))), s⟩, ⟨.int .i64, n⟩], [] => some (out81 s n)
  | _, _ => none
def G81 := addG G122 81 sp81
def P81 (s : List Int × List (List Int)) (n : Int) : Prop :=
  bif decide (giveB n = (0 : Int)) then (true = false → false = true) ∧ false = packR s n else bif !rightF (Prod.fst s) then false = packR s n else ∃ (x : Nat), (((0 : Nat) = (0 : Nat) ∧ Prod.snd s = Prod.snd s ∧ (0 : Int)
  = (↑x : Int) ∧ giveV (Prod.fst s) (giveB n) = giveV (Prod.fst s) (giveB n) ∧ false = false) ∧ x ≤ (8 : Nat) ∧ (List.all (List.range.loop x []) fun (b : Nat) => decide (pulsesF (List.getD (Prod.snd s) b (List.replicate (4
  : Nat) (0 : Int))) = List.getD (giveV (Prod.fst s) (giveB n)) b (0 : Int))) = true) ∧ ∀ (x : Nat), x ≤ (8 : Nat) ∧ (List.all (List.range.loop x []) fun (b : Nat) => decide (pulsesF (List.getD (Prod.snd s) b
  (List.replicate (4 : Nat) (0 : Int))) = List.getD (giveV (Prod.fst s) (giveB n)) b (0 : Int))) = true → IntKind.min IntKind.i64 ≤ (↑x : Int) ∧ (↑x : Int) ≤ IntKind.max IntKind.i64 → bif decide ((↑x : Int) < (8 : Int))
  then ((0 : Int) ≤ (↑x : Int) ∧ (↑x : Int) < (↑(8 : Nat) : Int)) ∧ ((4 : Nat) ≤ (9223372036854775807 : Nat) ∧ (4 : Nat) = List.length (List.getD (Prod.snd s) (Int.toNat (↑x : Int)) (List.replicate (4 : Nat) (0 : Int))) ∧
  ((0 : Int) ≤ (↑x : Int) ∧ (↑x : Int) < (↑(8 : Nat) : Int)) ∧ Int.toNat (↑x : Int) < (8 : Nat)) ∧ bif !decide (pulsesF (List.getD (Prod.snd s) (Int.toNat (↑x : Int)) (List.replicate (4 : Nat) (0 : Int))) = List.getD (giveV
  (Prod.fst s) (giveB n)) (Int.toNat (↑x : Int)) (0 : Int)) then false = packR s n else ∃ (y : Nat), ((0 : Nat) = (0 : Nat) ∧ Prod.snd s = Prod.snd s ∧ IntKind.wrap IntKind.i64 ((↑x : Int) + (1 : Int)) = (↑y : Int) ∧ giveV
  (Prod.fst s) (giveB n) = giveV (Prod.fst s) (giveB n) ∧ false = false) ∧ (y ≤ (8 : Nat) ∧ (List.all (List.range.loop y []) fun (b : Nat) => decide (pulsesF (List.getD (Prod.snd s) b (List.replicate (4 : Nat) (0 : Int))) =
  List.getD (giveV (Prod.fst s) (giveB n)) b (0 : Int))) = true) ∧ (8 : Nat) - y < (8 : Nat) - x else true = packR s n
theorem vc81 (s : List Int × List (List Int)) (n : Int) : P81 s n = vcFun C81 (ann81 s n) Go.Proofs.Try.f81 [⟨(.cons (.arr 8 (.int .i64)) (.last (.arr 8 (.arr 4 (.int .i64))))), s⟩, ⟨.int .i64, n⟩] [] (out81 s n) := by kernel_rfl

noncomputable def C82 : Ctx := ⟨Go.Proofs.Try.prog, D, G81, (fun _ _ => none), fun _ => []⟩
def ann82 (p : Int × List Int × List (List Int)) (_n : Int) : Nat → St → Option Ann := fun id _ => match id with | 1 => some ⟨Nat, [1, 2, 6, 7, 44], [0], fun i => [(45, .v (.int .i64) (i : Int))], fun i => [(1, some ⟨false, true, (.cons (.ref .slice) (.last (.int .i64))), [(.slice 3 (.int .u8) [] 0 (packB (bitsN p.1 16 ++ sideB (p.2.1.take i))).length, 16 + 4 * (i : Int))]⟩), (3, some ⟨false, false, .int .u8, packB (bitsN p.1 16 ++ sideB (p.2.1.take i))⟩)], fun i => i ≤ 8, fun i => 8 - i⟩ | _ => some ⟨Nat, [1, 6, 7, 54], [0], fun i => [(55, .v (.int .i64) (i : Int))], fun i => [(1, some ⟨false, true, (.cons (.ref .slice) (.last (.int .i64))), [(.slice 4 (.int .u8) [] 0 (packB (bitsN p.1 16 ++ sideB p.2.1 ++ rowsB (p.2.2.take i))).length, ((bitsN p.1 16 ++ sideB p.2.1 ++ rowsB (p.2.2.take i)).length : Int))]⟩), (4, some ⟨false, false, .int .u8, packB (bitsN p.1 16 ++ sideB p.2.1 ++ rowsB (p.2.2.take i))⟩)], fun i => i ≤ 8, fun i => 8 - i⟩
def out82 (p : Int × List Int × List (List Int)) (n : Int) : COut := ⟨[], .tup [⟨.str, layV p.1 p.2 n⟩, ⟨.int .i64, layE p.1 p.2 n⟩], [], []⟩
def sp82 : Spec := fun args ins => match args, ins with
  | [⟨(.cons (.int .i64) (.last (.cons (.arr 8 (.int .i64)) (.last (.arr 8 (.arr 4 (.int .i64))))))), p⟩, ⟨.int .i64, n⟩], [] => some (out82 p n)
  | _, _ => none
def G82 := addG G81 82 sp82
def P82 (p : Int × List Int × List (List Int)) (n : Int) : Prop :=
  bif decide (giveB n = (0 : Int)) then { data := { toList := [] } } = layV (Prod.fst p) (Prod.snd p) n ∧ (1 : Int) = layE (Prod.fst p) (Prod.snd p) n else ∀ (b : Bool), decide (Prod.fst p < (0 : Int)) = b → (((!b) = true →
  (!b) = true) ∧ ((!b) = true → (!b) = true) ∧ (b = false → (!b) = true)) ∧ bif bif b then true else decide ((65535 : Int) < Prod.fst p) then { data := { toList := [] } } = layV (Prod.fst p) (Prod.snd p) n ∧ (7 : Int) =
  layE (Prod.fst p) (Prod.snd p) n else bif !packR (Prod.fst (Prod.snd p), Prod.snd (Prod.snd p)) n then { data := { toList := [] } } = layV (Prod.fst p) (Prod.snd p) n ∧ (3 : Int) = layE (Prod.fst p) (Prod.snd p) n else
  ((0 : Int) = (0 : Int) ∧ ((1 : Int) ≤ (16 : Int) ∧ (16 : Int) ≤ (56 : Int)) ∧ (0 : Int) ≤ Prod.fst p ∧ Prod.fst p < (2 : Int) ^ (16 : Nat)) ∧ ∃ (x : Nat), ((n = n ∧ (0 : Nat) = (0 : Nat) ∧ (0 : Nat) = (0 : Nat) ∧ (0 :
  Nat) = (0 : Nat) ∧ Prod.fst (Prod.snd p) = Prod.fst (Prod.snd p) ∧ (0 : Int) = (↑x : Int) ∧ Prod.fst p = Prod.fst p ∧ Prod.fst (Prod.snd p) = Prod.fst (Prod.snd p) ∧ Prod.snd (Prod.snd p) = Prod.snd (Prod.snd p) ∧ false =
  false ∧ (0 : Nat) = (0 : Nat) ∧ List.length (packB (bitsN (Prod.fst p) (16 : Nat))) = List.length (packB (bitsN (Prod.fst p) (16 : Nat) ++ sideB (List.take x (Prod.fst (Prod.snd p))))) ∧ (16 : Int) = (16 : Int) + (4 :
  Int) * (↑x : Int) ∧ false = false ∧ packB (bitsN (Prod.fst p) (16 : Nat)) = packB (bitsN (Prod.fst p) (16 : Nat) ++ sideB (List.take x (Prod.fst (Prod.snd p)))) ∧ false = false) ∧ x ≤ (8 : Nat)) ∧ ∀ (x : Nat), x ≤ (8 :
  Nat) → (IntKind.min IntKind.i64 ≤ (↑x : Int) ∧ (↑x : Int) ≤ IntKind.max IntKind.i64 ∧ (∀ (y : Ref × Int), List.Mem y [(Ref.slice (3 : Nat) (Ty.int IntKind.u8) [] (0 : Nat) (List.length (packB (bitsN (Prod.fst p) (16 :
  Nat) ++ sideB (List.take x (Prod.fst (Prod.snd p)))))), (16 : Int) + (4 : Int) * (↑x : Int))] → IntKind.min IntKind.i64 ≤ Prod.snd y ∧ Prod.snd y ≤ IntKind.max IntKind.i64) ∧ ∀ (y : Int), List.Mem y (packB (bitsN
  (Prod.fst p) (16 : Nat) ++ sideB (List.take x (Prod.fst (Prod.snd p))))) → IntKind.min IntKind.u8 ≤ y ∧ y ≤ IntKind.max IntKind.u8) → bif decide ((↑x : Int) < (8 : Int)) then ((0 : Int) ≤ (↑x : Int) ∧ (↑x : Int) < (↑(8 :
  Nat) : Int)) ∧ (List.length (packB (bitsN (Prod.fst p) (16 : Nat) ++ sideB (List.take x (Prod.fst (Prod.snd p))))) = List.length (packB (bitsN (Prod.fst p) (16 : Nat) ++ sideB (List.take x (Prod.fst (Prod.snd p))))) ∧
  (wrOk (packB (bitsN (Prod.fst p) (16 : Nat) ++ sideB (List.take x (Prod.fst (Prod.snd p))))) ((16 : Int) + (4 : Int) * (↑x : Int)) ∧ (16 : Int) + (4 : Int) * (↑x : Int) ≤ (1000 : Int)) ∧ ((0 : Int) ≤ (4 : Int) ∧ (4 : Int)
  ≤ (56 : Int)) ∧ (0 : Int) ≤ List.getD (Prod.fst (Prod.snd p)) (Int.toNat (↑x : Int)) (0 : Int) ∧ List.getD (Prod.fst (Prod.snd p)) (Int.toNat (↑x : Int)) (0 : Int) < (2 : Int) ^ (4 : Nat)) ∧ ∃ (y : Nat), (n = n ∧ (0 :
  Nat) = (0 : Nat) ∧ (0 : Nat) = (0 : Nat) ∧ (0 : Nat) = (0 : Nat) ∧ Prod.fst (Prod.snd p) = Prod.fst (Prod.snd p) ∧ IntKind.wrap IntKind.i64 ((↑x : Int) + (1 : Int)) = (↑y : Int) ∧ Prod.fst p = Prod.fst p ∧ Prod.fst
  (Prod.snd p) = Prod.fst (Prod.snd p) ∧ Prod.snd (Prod.snd p) = Prod.snd (Prod.snd p) ∧ false = false ∧ (0 : Nat) = (0 : Nat) ∧ List.length (packB (wL (packB (bitsN (Prod.fst p) (16 : Nat) ++ sideB (List.take x (Prod.fst
  (Prod.snd p))))) ((16 : Int) + (4 : Int) * (↑x : Int)) ++ bitsN (List.getD (Prod.fst (Prod.snd p)) (Int.toNat (↑x : Int)) (0 : Int)) (4 : Nat))) = List.length (packB (bitsN (Prod.fst p) (16 : Nat) ++ sideB (List.take y
  (Prod.fst (Prod.snd p))))) ∧ (16 : Int) + (4 : Int) * (↑x : Int) + (4 : Int) = (16 : Int) + (4 : Int) * (↑y : Int) ∧ false = false ∧ packB (wL (packB (bitsN (Prod.fst p) (16 : Nat) ++ sideB (List.take x (Prod.fst
  (Prod.snd p))))) ((16 : Int) + (4 : Int) * (↑x : Int)) ++ bitsN (List.getD (Prod.fst (Prod.snd p)) (Int.toNat (↑x : Int)) (0 : Int)) (4 : Nat)) = packB (bitsN (Prod.fst p) (16 : Nat) ++ sideB (List.take y (Prod.fst
  (Prod.snd p)))) ∧ false = false) ∧ y ≤ (8 : Nat) ∧ (8 : Nat) - y < (8 : Nat) - x else ∃ (x_1 : Nat), ((n = n ∧ (0 : Nat) = (0 : Nat) ∧ (0 : Nat) = (0 : Nat) ∧ Prod.snd (Prod.snd p) = Prod.snd (Prod.snd p) ∧ (0 : Int) =
  (↑x_1 : Int) ∧ Prod.fst p = Prod.fst p ∧ Prod.fst (Prod.snd p) = Prod.fst (Prod.snd p) ∧ Prod.snd (Prod.snd p) = Prod.snd (Prod.snd p) ∧ false = false ∧ (0 : Nat) = (0 : Nat) ∧ List.length (packB (bitsN (Prod.fst p) (16 :
  Nat) ++ sideB (List.take x (Prod.fst (Prod.snd p))))) = List.length (packB (bitsN (Prod.fst p) (16 : Nat) ++ sideB (Prod.fst (Prod.snd p)) ++ rowsB (List.take x_1 (Prod.snd (Prod.snd p))))) ∧ (16 : Int) + (4 : Int) * (↑x
  : Int) = (↑(List.length (bitsN (Prod.fst p) (16 : Nat) ++ sideB (Prod.fst (Prod.snd p)) ++ rowsB (List.take x_1 (Prod.snd (Prod.snd p))))) : Int) ∧ false = false ∧ packB (bitsN (Prod.fst p) (16 : Nat) ++ sideB (List.take
  x (Prod.fst (Prod.snd p)))) = packB (bitsN (Prod.fst p) (16 : Nat) ++ sideB (Prod.fst (Prod.snd p)) ++ rowsB (List.take x_1 (Prod.snd (Prod.snd p)))) ∧ false = false) ∧ x_1 ≤ (8 : Nat)) ∧ ∀ (x : Nat), x ≤ (8 : Nat) →
  (IntKind.min IntKind.i64 ≤ (↑x : Int) ∧ (↑x : Int) ≤ IntKind.max IntKind.i64 ∧ (∀ (y : Ref × Int), List.Mem y [(Ref.slice (4 : Nat) (Ty.int IntKind.u8) [] (0 : Nat) (List.length (packB (bitsN (Prod.fst p) (16 : Nat) ++
  sideB (Prod.fst (Prod.snd p)) ++ rowsB (List.take x (Prod.snd (Prod.snd p)))))), (↑(List.length (bitsN (Prod.fst p) (16 : Nat) ++ sideB (Prod.fst (Prod.snd p)) ++ rowsB (List.take x (Prod.snd (Prod.snd p))))) : Int))] →
  IntKind.min IntKind.i64 ≤ Prod.snd y ∧ Prod.snd y ≤ IntKind.max IntKind.i64) ∧ ∀ (y : Int), List.Mem y (packB (bitsN (Prod.fst p) (16 : Nat) ++ sideB (Prod.fst (Prod.snd p)) ++ rowsB (List.take x (Prod.snd (Prod.snd
  p))))) → IntKind.min IntKind.u8 ≤ y ∧ y ≤ IntKind.max IntKind.u8) → bif decide ((↑x : Int) < (8 : Int)) then ((0 : Int) ≤ (↑x : Int) ∧ (↑x : Int) < (↑(8 : Nat) : Int)) ∧ ((4 : Nat) ≤ (9223372036854775807 : Nat) ∧ (4 :
  Nat) = List.length (List.getD (Prod.snd (Prod.snd p)) (Int.toNat (↑x : Int)) (List.replicate (4 : Nat) (0 : Int)))) ∧ ((4 : Nat) ≤ (9223372036854775807 : Nat) ∧ (4 : Nat) = List.length (List.getD (Prod.snd (Prod.snd p))
  (Int.toNat (↑x : Int)) (List.replicate (4 : Nat) (0 : Int))) ∧ List.length (packB (bitsN (Prod.fst p) (16 : Nat) ++ sideB (Prod.fst (Prod.snd p)) ++ rowsB (List.take x (Prod.snd (Prod.snd p))))) = List.length (packB
  (bitsN (Prod.fst p) (16 : Nat) ++ sideB (Prod.fst (Prod.snd p)) ++ rowsB (List.take x (Prod.snd (Prod.snd p))))) ∧ (wrOk (packB (bitsN (Prod.fst p) (16 : Nat) ++ sideB (Prod.fst (Prod.snd p)) ++ rowsB (List.take x
  (Prod.snd (Prod.snd p))))) (↑(List.length (bitsN (Prod.fst p) (16 : Nat) ++ sideB (Prod.fst (Prod.snd p)) ++ rowsB (List.take x (Prod.snd (Prod.snd p))))) : Int) ∧ (↑(List.length (bitsN (Prod.fst p) (16 : Nat) ++ sideB
  (Prod.fst (Prod.snd p)) ++ rowsB (List.take x (Prod.snd (Prod.snd p))))) : Int) ≤ (1000 : Int)) ∧ ((0 : Int) ≤ bitsF (pulsesF (List.getD (Prod.snd (Prod.snd p)) (Int.toNat (↑x : Int)) (List.replicate (4 : Nat) (0 :
  Int)))) ∧ bitsF (pulsesF (List.getD (Prod.snd (Prod.snd p)) (Int.toNat (↑x : Int)) (List.replicate (4 : Nat) (0 : Int)))) ≤ (56 : Int)) ∧ (0 : Int) ≤ Prod.fst (indexF (List.getD (Prod.snd (Prod.snd p)) (Int.toNat (↑x :
  Int)) (List.replicate (4 : Nat) (0 : Int)))) ∧ Prod.fst (indexF (List.getD (Prod.snd (Prod.snd p)) (Int.toNat (↑x : Int)) (List.replicate (4 : Nat) (0 : Int)))) < (2 : Int) ^ Int.toNat (bitsF (pulsesF (List.getD (Prod.snd
  (Prod.snd p)) (Int.toNat (↑x : Int)) (List.replicate (4 : Nat) (0 : Int)))))) ∧ ∃ (y : Nat), (n = n ∧ (0 : Nat) = (0 : Nat) ∧ (0 : Nat) = (0 : Nat) ∧ Prod.snd (Prod.snd p) = Prod.snd (Prod.snd p) ∧ IntKind.wrap
  IntKind.i64 ((↑x : Int) + (1 : Int)) = (↑y : Int) ∧ Prod.fst p = Prod.fst p ∧ Prod.fst (Prod.snd p) = Prod.fst (Prod.snd p) ∧ Prod.snd (Prod.snd p) = Prod.snd (Prod.snd p) ∧ false = false ∧ (0 : Nat) = (0 : Nat) ∧
  List.length (packB (wL (packB (bitsN (Prod.fst p) (16 : Nat) ++ sideB (Prod.fst (Prod.snd p)) ++ rowsB (List.take x (Prod.snd (Prod.snd p))))) (↑(List.length (bitsN (Prod.fst p) (16 : Nat) ++ sideB (Prod.fst (Prod.snd p))
  ++ rowsB (List.take x (Prod.snd (Prod.snd p))))) : Int) ++ bitsN (Prod.fst (indexF (List.getD (Prod.snd (Prod.snd p)) (Int.toNat (↑x : Int)) (List.replicate (4 : Nat) (0 : Int))))) (Int.toNat (bitsF (pulsesF (List.getD
  (Prod.snd (Prod.snd p)) (Int.toNat (↑x : Int)) (List.replicate (4 : Nat) (0 : Int)))))))) = List.length (packB (bitsN (Prod.fst p) (16 : Nat) ++ sideB (Prod.fst (Prod.snd p)) ++ rowsB (List.take y (Prod.snd (Prod.snd
  p))))) ∧ (↑(List.length (bitsN (Prod.fst p) (16 : Nat) ++ sideB (Prod.fst (Prod.snd p)) ++ rowsB (List.take x (Prod.snd (Prod.snd p))))) : Int) + bitsF (pulsesF (List.getD (Prod.snd (Prod.snd p)) (Int.toNat (↑x : Int))
  (List.replicate (4 : Nat) (0 : Int)))) = (↑(List.length (bitsN (Prod.fst p) (16 : Nat) ++ sideB (Prod.fst (Prod.snd p)) ++ rowsB (List.take y (Prod.snd (Prod.snd p))))) : Int) ∧ false = false ∧ packB (wL (packB (bitsN
  (Prod.fst p) (16 : Nat) ++ sideB (Prod.fst (Prod.snd p)) ++ rowsB (List.take x (Prod.snd (Prod.snd p))))) (↑(List.length (bitsN (Prod.fst p) (16 : Nat) ++ sideB (Prod.fst (Prod.snd p)) ++ rowsB (List.take x (Prod.snd
  (Prod.snd p))))) : Int) ++ bitsN (Prod.fst (indexF (List.getD (Prod.snd (Prod.snd p)) (Int.toNat (↑x : Int)) (List.replicate (4 : Nat) (0 : Int))))) (Int.toNat (bitsF (pulsesF (List.getD (Prod.snd (Prod.snd p)) (Int.toNat
  (↑x : Int)) (List.replicate (4 : Nat) (0 : Int))))))) = packB (bitsN (Prod.fst p) (16 : Nat) ++ sideB (Prod.fst (Prod.snd p)) ++ rowsB (List.take y (Prod.snd (Prod.snd p)))) ∧ false = false) ∧ y ≤ (8 : Nat) ∧ (8 : Nat) -
  y < (8 : Nat) - x else List.length (packB (bitsN (Prod.fst p) (16 : Nat) ++ sideB (Prod.fst (Prod.snd p)) ++ rowsB (List.take x (Prod.snd (Prod.snd p))))) = List.length (packB (bitsN (Prod.fst p) (16 : Nat) ++ sideB
  (Prod.fst (Prod.snd p)) ++ rowsB (List.take x (Prod.snd (Prod.snd p))))) ∧ (((0 : Int) ≤ IntKind.wrap IntKind.i64 (IntKind.wrap IntKind.i64 (n - (2 : Int)) - (↑(ByteArray.size (bytesOf (packB (bitsN (Prod.fst p) (16 :
  Nat) ++ sideB (Prod.fst (Prod.snd p)) ++ rowsB (List.take x (Prod.snd (Prod.snd p))))))) : Int)) ∧ IntKind.wrap IntKind.i64 (IntKind.wrap IntKind.i64 (n - (2 : Int)) - (↑(ByteArray.size (bytesOf (packB (bitsN (Prod.fst p)
  (16 : Nat) ++ sideB (Prod.fst (Prod.snd p)) ++ rowsB (List.take x (Prod.snd (Prod.snd p))))))) : Int)) ≤ (1000 : Int)) ∧ (1 : Nat) ≤ (1000 : Nat) ∧ ByteArray.size (bytesOf (packB (bitsN (Prod.fst p) (16 : Nat) ++ sideB
  (Prod.fst (Prod.snd p)) ++ rowsB (List.take x (Prod.snd (Prod.snd p)))))) + ByteArray.size (repS { data := { toList := [(0 : UInt8)] } } (IntKind.wrap IntKind.i64 (IntKind.wrap IntKind.i64 (n - (2 : Int)) -
  (↑(ByteArray.size (bytesOf (packB (bitsN (Prod.fst p) (16 : Nat) ++ sideB (Prod.fst (Prod.snd p)) ++ rowsB (List.take x (Prod.snd (Prod.snd p))))))) : Int)))) ≤ (9223372036854775807 : Nat) ∧ ByteArray.size (bytesOf (packB
  (bitsN (Prod.fst p) (16 : Nat) ++ sideB (Prod.fst (Prod.snd p)) ++ rowsB (List.take x (Prod.snd (Prod.snd p))))) ++ repS { data := { toList := [(0 : UInt8)] } } (IntKind.wrap IntKind.i64 (IntKind.wrap IntKind.i64 (n - (2
  : Int)) - (↑(ByteArray.size (bytesOf (packB (bitsN (Prod.fst p) (16 : Nat) ++ sideB (Prod.fst (Prod.snd p)) ++ rowsB (List.take x (Prod.snd (Prod.snd p))))))) : Int)))) ≤ (1000 : Nat)) ∧ bytesOf (sealS (ofBytes (bytesOf
  (packB (bitsN (Prod.fst p) (16 : Nat) ++ sideB (Prod.fst (Prod.snd p)) ++ rowsB (List.take x (Prod.snd (Prod.snd p))))) ++ repS { data := { toList := [(0 : UInt8)] } } (IntKind.wrap IntKind.i64 (IntKind.wrap IntKind.i64
  (n - (2 : Int)) - (↑(ByteArray.size (bytesOf (packB (bitsN (Prod.fst p) (16 : Nat) ++ sideB (Prod.fst (Prod.snd p)) ++ rowsB (List.take x (Prod.snd (Prod.snd p))))))) : Int)))))) = layV (Prod.fst p) (Prod.snd p) n ∧ (0 :
  Int) = layE (Prod.fst p) (Prod.snd p) n
theorem vc82 (p : Int × List Int × List (List Int)) (n : Int) : P82 p n = vcFun C82 (ann82 p n) Go.Proofs.Try.f82 [⟨(.cons (.int .i64) (.last (.cons (.arr 8 (.int .i64)) (.last (.arr 8 (.arr 4 (.int .i64))))))), p⟩, ⟨.int .i64, n⟩] [] (out82 p n) := by kernel_rfl

noncomputable def C83 : Ctx := ⟨Go.Proofs.Try.prog, D, G82, (fun _ _ => none), fun _ => []⟩
def ann83 (_s : ByteArray) : Nat → St → Option Ann := fun id S => match id with | 0 => some ⟨Nat, [0, 2, 4, 6, 7], [0], fun i => [(34, .v (.int .i64) (i : Int))], fun i => [(1, some ⟨false, true, .cons .str (.last (.int .i64)), [(S.val 4 .str, 16 + 4 * (i : Int))]⟩), (2, some ⟨false, true, (.cons (.int .i64) (.last (.cons (.arr 8 (.int .i64)) (.last (.arr 8 (.arr 4 (.int .i64))))))), [(getN (bitsS (S.val 4 .str)) 0 16, (sideR (bitsS (S.val 4 .str))).take i ++ (List.replicate 8 0).drop i, List.replicate 8 (List.replicate 4 0))]⟩)], fun i => i ≤ 8, fun i => 8 - i⟩ | _ => some ⟨Nat, [0, 2, 4, 6, 7, 9], [0, 3], fun i => [(57, .v (.int .i64) (i : Int))], fun i => [(1, some ⟨false, true, .cons .str (.last (.int .i64)), [(S.val 4 .str, (offK (S.x 3 (.arr 8 (.int .i64))) i : Int))]⟩), (2, some ⟨false, true, (.cons (.int .i64) (.last (.cons (.arr 8 (.int .i64)) (.last (.arr 8 (.arr 4 (.int .i64))))))), [(getN (bitsS (S.val 4 .str)) 0 16, sideR (bitsS (S.val 4 .str)), rowsR (bitsS (S.val 4 .str)) (S.x 3 (.arr 8 (.int .i64))) i ++ (List.replicate 8 (List.replicate 4 0)).drop i)]⟩)], fun i => i ≤ 8 ∧ okTo (bitsS (S.val 4 .str)) (S.x 3 (.arr 8 (.int .i64))) i = true, fun i => 8 - i⟩
def out83 (s : ByteArray) : COut := ⟨[], .tup [⟨(.cons (.int .i64) (.last (.cons (.arr 8 (.int .i64)) (.last (.arr 8 (.arr 4 (.int .i64))))))), readV s⟩, ⟨.int .i64, readE s⟩], [], []⟩
def sp83 : Spec := fun args ins => match args, ins with
  | [⟨.str, s⟩], [] => some (out83 s)
  | _, _ => none
def G83 := addG G82 83 sp83
def P83 (s : ByteArray) : Prop :=
  bif decide (giveB (↑(ByteArray.size s) : Int) = (0 : Int)) then (0 : Int) = Prod.fst (readV s) ∧ List.replicate (8 : Nat) (0 : Int) = Prod.fst (Prod.snd (readV s)) ∧ List.replicate (8 : Nat) (List.replicate (4 : Nat) (0 :
  Int)) = Prod.snd (Prod.snd (readV s)) ∧ (1 : Int) = readE s else ((2 : Nat) ≤ ByteArray.size s ∧ ByteArray.size s ≤ (1000 : Nat)) ∧ bif !decide (openE s = (0 : Int)) then (0 : Int) = Prod.fst (readV s) ∧ List.replicate (8
  : Nat) (0 : Int) = Prod.fst (Prod.snd (readV s)) ∧ List.replicate (8 : Nat) (List.replicate (4 : Nat) (0 : Int)) = Prod.snd (Prod.snd (readV s)) ∧ openE s = readE s else (ByteArray.size (openS s) ≤ (1000 : Nat) ∧ ((0 :
  Int) ≤ (0 : Int) ∧ (0 : Int) ≤ (8 : Int) * (↑(ByteArray.size (openS s)) : Int)) ∧ (0 : Int) ≤ (16 : Int) ∧ (16 : Int) ≤ (56 : Int)) ∧ ∃ (x : Nat), ((s = s ∧ (0 : Nat) = (0 : Nat) ∧ openS s = openS s ∧ (0 : Nat) = (0 :
  Nat) ∧ (0 : Nat) = (0 : Nat) ∧ (0 : Int) = (↑x : Int) ∧ (0 : Int) = (0 : Int) ∧ List.replicate (8 : Nat) (0 : Int) = List.replicate (8 : Nat) (0 : Int) ∧ List.replicate (8 : Nat) (List.replicate (4 : Nat) (0 : Int)) =
  List.replicate (8 : Nat) (List.replicate (4 : Nat) (0 : Int)) ∧ false = false ∧ openS s = openS s ∧ getA (openS s) (0 : Int) (16 : Int) = (16 : Int) + (4 : Int) * (↑x : Int) ∧ false = false ∧ getV (openS s) (0 : Int) (16
  : Int) = getN (bitsS (openS s)) (0 : Nat) (16 : Nat) ∧ List.replicate (8 : Nat) (0 : Int) = List.take x (sideR (bitsS (openS s))) ++ List.drop x (List.replicate (8 : Nat) (0 : Int)) ∧ List.replicate (8 : Nat)
  (List.replicate (4 : Nat) (0 : Int)) = List.replicate (8 : Nat) (List.replicate (4 : Nat) (0 : Int)) ∧ false = false) ∧ x ≤ (8 : Nat)) ∧ ∀ (x : Nat), x ≤ (8 : Nat) → (IntKind.min IntKind.i64 ≤ (↑x : Int) ∧ (↑x : Int) ≤
  IntKind.max IntKind.i64 ∧ (∀ (y : ByteArray × Int), List.Mem y [(openS s, (16 : Int) + (4 : Int) * (↑x : Int))] → ByteArray.size (Prod.fst y) ≤ (9223372036854775807 : Nat) ∧ IntKind.min IntKind.i64 ≤ Prod.snd y ∧ Prod.snd
  y ≤ IntKind.max IntKind.i64) ∧ ∀ (y : Int × List Int × List (List Int)), List.Mem y [(getN (bitsS (openS s)) (0 : Nat) (16 : Nat), List.take x (sideR (bitsS (openS s))) ++ List.drop x (List.replicate (8 : Nat) (0 : Int)),
  List.replicate (8 : Nat) (List.replicate (4 : Nat) (0 : Int)))] → IntKind.min IntKind.i64 ≤ Prod.fst y ∧ Prod.fst y ≤ IntKind.max IntKind.i64 ∧ List.length (Prod.fst (Prod.snd y)) = (8 : Nat) ∧ (∀ (y_1 : Int), List.Mem
  y_1 (Prod.fst (Prod.snd y)) → IntKind.min IntKind.i64 ≤ y_1 ∧ y_1 ≤ IntKind.max IntKind.i64) ∧ List.length (Prod.snd (Prod.snd y)) = (8 : Nat) ∧ ∀ (y_1 : List Int), List.Mem y_1 (Prod.snd (Prod.snd y)) → List.length y_1 =
  (4 : Nat) ∧ ∀ (y : Int), List.Mem y y_1 → IntKind.min IntKind.i64 ≤ y ∧ y ≤ IntKind.max IntKind.i64) → bif decide ((↑x : Int) < (8 : Int)) then (ByteArray.size (openS s) ≤ (1000 : Nat) ∧ ((0 : Int) ≤ (16 : Int) + (4 :
  Int) * (↑x : Int) ∧ (16 : Int) + (4 : Int) * (↑x : Int) ≤ (8 : Int) * (↑(ByteArray.size (openS s)) : Int)) ∧ ((0 : Int) ≤ (4 : Int) ∧ (4 : Int) ≤ (56 : Int)) ∧ ((0 : Int) ≤ (↑x : Int) ∧ (↑x : Int) < (↑(8 : Nat) : Int)) ∧
  Int.toNat (↑x : Int) < (8 : Nat)) ∧ ∃ (y : Nat), (s = s ∧ (0 : Nat) = (0 : Nat) ∧ openS s = openS s ∧ (0 : Nat) = (0 : Nat) ∧ (0 : Nat) = (0 : Nat) ∧ IntKind.wrap IntKind.i64 ((↑x : Int) + (1 : Int)) = (↑y : Int) ∧ (0 :
  Int) = (0 : Int) ∧ List.replicate (8 : Nat) (0 : Int) = List.replicate (8 : Nat) (0 : Int) ∧ List.replicate (8 : Nat) (List.replicate (4 : Nat) (0 : Int)) = List.replicate (8 : Nat) (List.replicate (4 : Nat) (0 : Int)) ∧
  false = false ∧ openS s = openS s ∧ getA (openS s) ((16 : Int) + (4 : Int) * (↑x : Int)) (4 : Int) = (16 : Int) + (4 : Int) * (↑y : Int) ∧ false = false ∧ getN (bitsS (openS s)) (0 : Nat) (16 : Nat) = getN (bitsS (openS
  s)) (0 : Nat) (16 : Nat) ∧ List.set (List.take x (sideR (bitsS (openS s))) ++ List.drop x (List.replicate (8 : Nat) (0 : Int))) (Int.toNat (↑x : Int)) (getV (openS s) ((16 : Int) + (4 : Int) * (↑x : Int)) (4 : Int)) =
  List.take y (sideR (bitsS (openS s))) ++ List.drop y (List.replicate (8 : Nat) (0 : Int)) ∧ List.replicate (8 : Nat) (List.replicate (4 : Nat) (0 : Int)) = List.replicate (8 : Nat) (List.replicate (4 : Nat) (0 : Int)) ∧
  false = false) ∧ y ≤ (8 : Nat) ∧ (8 : Nat) - y < (8 : Nat) - x else ∃ (x_1 : Nat), ((s = s ∧ (0 : Nat) = (0 : Nat) ∧ openS s = openS s ∧ (0 : Nat) = (0 : Nat) ∧ (0 : Nat) = (0 : Nat) ∧ (0 : Nat) = (0 : Nat) ∧ (0 : Int) =
  (↑x_1 : Int) ∧ (0 : Int) = (0 : Int) ∧ List.replicate (8 : Nat) (0 : Int) = List.replicate (8 : Nat) (0 : Int) ∧ List.replicate (8 : Nat) (List.replicate (4 : Nat) (0 : Int)) = List.replicate (8 : Nat) (List.replicate (4
  : Nat) (0 : Int)) ∧ false = false ∧ openS s = openS s ∧ (16 : Int) + (4 : Int) * (↑x : Int) = (↑(offK (giveV (List.take x (sideR (bitsS (openS s))) ++ List.drop x (List.replicate (8 : Nat) (0 : Int))) (giveB
  (↑(ByteArray.size s) : Int))) x_1) : Int) ∧ false = false ∧ getN (bitsS (openS s)) (0 : Nat) (16 : Nat) = getN (bitsS (openS s)) (0 : Nat) (16 : Nat) ∧ List.take x (sideR (bitsS (openS s))) ++ List.drop x (List.replicate
  (8 : Nat) (0 : Int)) = sideR (bitsS (openS s)) ∧ List.replicate (8 : Nat) (List.replicate (4 : Nat) (0 : Int)) = rowsR (bitsS (openS s)) (giveV (List.take x (sideR (bitsS (openS s))) ++ List.drop x (List.replicate (8 :
  Nat) (0 : Int))) (giveB (↑(ByteArray.size s) : Int))) x_1 ++ List.drop x_1 (List.replicate (8 : Nat) (List.replicate (4 : Nat) (0 : Int))) ∧ false = false ∧ giveV (List.take x (sideR (bitsS (openS s))) ++ List.drop x
  (List.replicate (8 : Nat) (0 : Int))) (giveB (↑(ByteArray.size s) : Int)) = giveV (List.take x (sideR (bitsS (openS s))) ++ List.drop x (List.replicate (8 : Nat) (0 : Int))) (giveB (↑(ByteArray.size s) : Int)) ∧ false =
  false) ∧ x_1 ≤ (8 : Nat) ∧ okTo (bitsS (openS s)) (giveV (List.take x (sideR (bitsS (openS s))) ++ List.drop x (List.replicate (8 : Nat) (0 : Int))) (giveB (↑(ByteArray.size s) : Int))) x_1 = true) ∧ ∀ (x_2 : Nat), x_2 ≤
  (8 : Nat) ∧ okTo (bitsS (openS s)) (giveV (List.take x (sideR (bitsS (openS s))) ++ List.drop x (List.replicate (8 : Nat) (0 : Int))) (giveB (↑(ByteArray.size s) : Int))) x_2 = true → (IntKind.min IntKind.i64 ≤ (↑x_2 :
  Int) ∧ (↑x_2 : Int) ≤ IntKind.max IntKind.i64 ∧ (∀ (y : ByteArray × Int), List.Mem y [(openS s, (↑(offK (giveV (List.take x (sideR (bitsS (openS s))) ++ List.drop x (List.replicate (8 : Nat) (0 : Int))) (giveB
  (↑(ByteArray.size s) : Int))) x_2) : Int))] → ByteArray.size (Prod.fst y) ≤ (9223372036854775807 : Nat) ∧ IntKind.min IntKind.i64 ≤ Prod.snd y ∧ Prod.snd y ≤ IntKind.max IntKind.i64) ∧ ∀ (y : Int × List Int × List (List
  Int)), List.Mem y [(getN (bitsS (openS s)) (0 : Nat) (16 : Nat), sideR (bitsS (openS s)), rowsR (bitsS (openS s)) (giveV (List.take x (sideR (bitsS (openS s))) ++ List.drop x (List.replicate (8 : Nat) (0 : Int))) (giveB
  (↑(ByteArray.size s) : Int))) x_2 ++ List.drop x_2 (List.replicate (8 : Nat) (List.replicate (4 : Nat) (0 : Int))))] → IntKind.min IntKind.i64 ≤ Prod.fst y ∧ Prod.fst y ≤ IntKind.max IntKind.i64 ∧ List.length (Prod.fst
  (Prod.snd y)) = (8 : Nat) ∧ (∀ (y_1 : Int), List.Mem y_1 (Prod.fst (Prod.snd y)) → IntKind.min IntKind.i64 ≤ y_1 ∧ y_1 ≤ IntKind.max IntKind.i64) ∧ List.length (Prod.snd (Prod.snd y)) = (8 : Nat) ∧ ∀ (y_1 : List Int),
  List.Mem y_1 (Prod.snd (Prod.snd y)) → List.length y_1 = (4 : Nat) ∧ ∀ (y : Int), List.Mem y y_1 → IntKind.min IntKind.i64 ≤ y ∧ y ≤ IntKind.max IntKind.i64) → bif decide ((↑x_2 : Int) < (8 : Int)) then (((0 : Int) ≤
  (↑x_2 : Int) ∧ (↑x_2 : Int) < (↑(8 : Nat) : Int)) ∧ Int.toNat (↑x_2 : Int) < (8 : Nat) ∧ ByteArray.size (openS s) ≤ (1000 : Nat) ∧ ((0 : Int) ≤ List.getD (giveV (List.take x (sideR (bitsS (openS s))) ++ List.drop x
  (List.replicate (8 : Nat) (0 : Int))) (giveB (↑(ByteArray.size s) : Int))) (Int.toNat (↑x_2 : Int)) (0 : Int) ∧ List.getD (giveV (List.take x (sideR (bitsS (openS s))) ++ List.drop x (List.replicate (8 : Nat) (0 : Int)))
  (giveB (↑(ByteArray.size s) : Int))) (Int.toNat (↑x_2 : Int)) (0 : Int) ≤ (12 : Int)) ∧ ((0 : Int) ≤ (↑(offK (giveV (List.take x (sideR (bitsS (openS s))) ++ List.drop x (List.replicate (8 : Nat) (0 : Int))) (giveB
  (↑(ByteArray.size s) : Int))) x_2) : Int) ∧ (↑(offK (giveV (List.take x (sideR (bitsS (openS s))) ++ List.drop x (List.replicate (8 : Nat) (0 : Int))) (giveB (↑(ByteArray.size s) : Int))) x_2) : Int) + (↑(bitsK (List.getD
  (giveV (List.take x (sideR (bitsS (openS s))) ++ List.drop x (List.replicate (8 : Nat) (0 : Int))) (giveB (↑(ByteArray.size s) : Int))) (Int.toNat (↑x_2 : Int)) (0 : Int))) : Int) ≤ (8 : Int) * (↑(ByteArray.size (openS
  s)) : Int)) ∧ ((0 : Int) ≤ (↑x_2 : Int) ∧ (↑x_2 : Int) < (↑(8 : Nat) : Int)) ∧ Int.toNat (↑x_2 : Int) < (8 : Nat)) ∧ bif !decide (pulE (openS s) (↑(offK (giveV (List.take x (sideR (bitsS (openS s))) ++ List.drop x
  (List.replicate (8 : Nat) (0 : Int))) (giveB (↑(ByteArray.size s) : Int))) x_2) : Int) (List.getD (giveV (List.take x (sideR (bitsS (openS s))) ++ List.drop x (List.replicate (8 : Nat) (0 : Int))) (giveB (↑(ByteArray.size
  s) : Int))) (Int.toNat (↑x_2 : Int)) (0 : Int)) = (0 : Int)) then (0 : Int) = Prod.fst (readV s) ∧ List.replicate (8 : Nat) (0 : Int) = Prod.fst (Prod.snd (readV s)) ∧ List.replicate (8 : Nat) (List.replicate (4 : Nat) (0
  : Int)) = Prod.snd (Prod.snd (readV s)) ∧ pulE (openS s) (↑(offK (giveV (List.take x (sideR (bitsS (openS s))) ++ List.drop x (List.replicate (8 : Nat) (0 : Int))) (giveB (↑(ByteArray.size s) : Int))) x_2) : Int)
  (List.getD (giveV (List.take x (sideR (bitsS (openS s))) ++ List.drop x (List.replicate (8 : Nat) (0 : Int))) (giveB (↑(ByteArray.size s) : Int))) (Int.toNat (↑x_2 : Int)) (0 : Int)) = readE s else ∃ (y : Nat), (s = s ∧
  (0 : Nat) = (0 : Nat) ∧ openS s = openS s ∧ (0 : Nat) = (0 : Nat) ∧ (0 : Nat) = (0 : Nat) ∧ (0 : Nat) = (0 : Nat) ∧ IntKind.wrap IntKind.i64 ((↑x_2 : Int) + (1 : Int)) = (↑y : Int) ∧ (0 : Int) = (0 : Int) ∧ List.replicate
  (8 : Nat) (0 : Int) = List.replicate (8 : Nat) (0 : Int) ∧ List.replicate (8 : Nat) (List.replicate (4 : Nat) (0 : Int)) = List.replicate (8 : Nat) (List.replicate (4 : Nat) (0 : Int)) ∧ false = false ∧ openS s = openS s
  ∧ (↑(offK (giveV (List.take x (sideR (bitsS (openS s))) ++ List.drop x (List.replicate (8 : Nat) (0 : Int))) (giveB (↑(ByteArray.size s) : Int))) x_2) : Int) + (↑(bitsK (List.getD (giveV (List.take x (sideR (bitsS (openS
  s))) ++ List.drop x (List.replicate (8 : Nat) (0 : Int))) (giveB (↑(ByteArray.size s) : Int))) (Int.toNat (↑x_2 : Int)) (0 : Int))) : Int) = (↑(offK (giveV (List.take x (sideR (bitsS (openS s))) ++ List.drop x
  (List.replicate (8 : Nat) (0 : Int))) (giveB (↑(ByteArray.size s) : Int))) y) : Int) ∧ false = false ∧ getN (bitsS (openS s)) (0 : Nat) (16 : Nat) = getN (bitsS (openS s)) (0 : Nat) (16 : Nat) ∧ sideR (bitsS (openS s)) =
  sideR (bitsS (openS s)) ∧ List.set (rowsR (bitsS (openS s)) (giveV (List.take x (sideR (bitsS (openS s))) ++ List.drop x (List.replicate (8 : Nat) (0 : Int))) (giveB (↑(ByteArray.size s) : Int))) x_2 ++ List.drop x_2
  (List.replicate (8 : Nat) (List.replicate (4 : Nat) (0 : Int)))) (Int.toNat (↑x_2 : Int)) (pulV (openS s) (↑(offK (giveV (List.take x (sideR (bitsS (openS s))) ++ List.drop x (List.replicate (8 : Nat) (0 : Int))) (giveB
  (↑(ByteArray.size s) : Int))) x_2) : Int) (List.getD (giveV (List.take x (sideR (bitsS (openS s))) ++ List.drop x (List.replicate (8 : Nat) (0 : Int))) (giveB (↑(ByteArray.size s) : Int))) (Int.toNat (↑x_2 : Int)) (0 :
  Int))) = rowsR (bitsS (openS s)) (giveV (List.take x (sideR (bitsS (openS s))) ++ List.drop x (List.replicate (8 : Nat) (0 : Int))) (giveB (↑(ByteArray.size s) : Int))) y ++ List.drop y (List.replicate (8 : Nat)
  (List.replicate (4 : Nat) (0 : Int))) ∧ false = false ∧ giveV (List.take x (sideR (bitsS (openS s))) ++ List.drop x (List.replicate (8 : Nat) (0 : Int))) (giveB (↑(ByteArray.size s) : Int)) = giveV (List.take x (sideR
  (bitsS (openS s))) ++ List.drop x (List.replicate (8 : Nat) (0 : Int))) (giveB (↑(ByteArray.size s) : Int)) ∧ false = false) ∧ (y ≤ (8 : Nat) ∧ okTo (bitsS (openS s)) (giveV (List.take x (sideR (bitsS (openS s))) ++
  List.drop x (List.replicate (8 : Nat) (0 : Int))) (giveB (↑(ByteArray.size s) : Int))) y = true) ∧ (8 : Nat) - y < (8 : Nat) - x_2 else (ByteArray.size (openS s) ≤ (1000 : Nat) ∧ (0 : Int) ≤ (↑(offK (giveV (List.take x
  (sideR (bitsS (openS s))) ++ List.drop x (List.replicate (8 : Nat) (0 : Int))) (giveB (↑(ByteArray.size s) : Int))) x_2) : Int) ∧ (↑(offK (giveV (List.take x (sideR (bitsS (openS s))) ++ List.drop x (List.replicate (8 :
  Nat) (0 : Int))) (giveB (↑(ByteArray.size s) : Int))) x_2) : Int) ≤ (8 : Int) * (↑(ByteArray.size (openS s)) : Int)) ∧ bif !List.all (List.drop (Int.toNat (↑(offK (giveV (List.take x (sideR (bitsS (openS s))) ++ List.drop
  x (List.replicate (8 : Nat) (0 : Int))) (giveB (↑(ByteArray.size s) : Int))) x_2) : Int)) (bitsS (openS s))) fun (b : Int) => decide (b ≠ (1 : Int)) then (0 : Int) = Prod.fst (readV s) ∧ List.replicate (8 : Nat) (0 : Int)
  = Prod.fst (Prod.snd (readV s)) ∧ List.replicate (8 : Nat) (List.replicate (4 : Nat) (0 : Int)) = Prod.snd (Prod.snd (readV s)) ∧ (3 : Int) = readE s else getN (bitsS (openS s)) (0 : Nat) (16 : Nat) = Prod.fst (readV s) ∧
  sideR (bitsS (openS s)) = Prod.fst (Prod.snd (readV s)) ∧ rowsR (bitsS (openS s)) (giveV (List.take x (sideR (bitsS (openS s))) ++ List.drop x (List.replicate (8 : Nat) (0 : Int))) (giveB (↑(ByteArray.size s) : Int))) x_2
  ++ List.drop x_2 (List.replicate (8 : Nat) (List.replicate (4 : Nat) (0 : Int))) = Prod.snd (Prod.snd (readV s)) ∧ (0 : Int) = readE s
theorem vc83 (s : ByteArray) : P83 s = vcFun C83 (ann83 s) Go.Proofs.Try.f83 [⟨.str, s⟩] [] (out83 s) := by kernel_rfl

noncomputable def C30 : Ctx := ⟨Go.Proofs.Try.prog, D, G83, (fun _ _ => none), fun _ => []⟩
def ann30 (_f : List Int) (_z _t : Int) : Nat → St → Option Ann := fun _ _ => none
def out30 (_f : List Int) (_z _t : Int) : COut := ⟨[], .v .bool true, [], []⟩
def sp30 : Spec := fun args ins => match args, ins with
  | [⟨.arr 32 (.int .i64), f⟩, ⟨.int .u8, z⟩, ⟨.int .u8, t⟩], [] => some (out30 f z t)
  | _, _ => none
def G30 := addG G83 30 sp30
def P30 (f : List Int) (z t : Int) : Prop :=
  (13 : Int) ≠ (0 : Int) ∧ bif !decide (shapeE (IntKind.wrap IntKind.i64 ((12 : Int) + Int.tmod (IntKind.wrap IntKind.i64 z) (13 : Int))) = (0 : Int)) then (true = false → false = true) ∧ false = true else bif !packR
  (Prod.fst (shapeV f (IntKind.wrap IntKind.i64 ((12 : Int) + Int.tmod (IntKind.wrap IntKind.i64 z) (13 : Int)))), Prod.snd (shapeV f (IntKind.wrap IntKind.i64 ((12 : Int) + Int.tmod (IntKind.wrap IntKind.i64 z) (13 :
  Int))))) (IntKind.wrap IntKind.i64 ((12 : Int) + Int.tmod (IntKind.wrap IntKind.i64 z) (13 : Int))) then false = true else ∀ (b : Bool), decide (layE (IntKind.wrap IntKind.i64 t) (Prod.fst (shapeV f (IntKind.wrap
  IntKind.i64 ((12 : Int) + Int.tmod (IntKind.wrap IntKind.i64 z) (13 : Int)))), Prod.snd (shapeV f (IntKind.wrap IntKind.i64 ((12 : Int) + Int.tmod (IntKind.wrap IntKind.i64 z) (13 : Int))))) (IntKind.wrap IntKind.i64 ((12
  : Int) + Int.tmod (IntKind.wrap IntKind.i64 z) (13 : Int))) = (0 : Int)) = b → ∀ (b_1 : Bool), (bif b then decide (readE (layV (IntKind.wrap IntKind.i64 t) (Prod.fst (shapeV f (IntKind.wrap IntKind.i64 ((12 : Int) +
  Int.tmod (IntKind.wrap IntKind.i64 z) (13 : Int)))), Prod.snd (shapeV f (IntKind.wrap IntKind.i64 ((12 : Int) + Int.tmod (IntKind.wrap IntKind.i64 z) (13 : Int))))) (IntKind.wrap IntKind.i64 ((12 : Int) + Int.tmod
  (IntKind.wrap IntKind.i64 z) (13 : Int)))) = (0 : Int)) else false) = b_1 → bif bif b_1 then Ty.eqb (Ty.cons (Ty.arr (8 : Nat) (Ty.int IntKind.i64)) (Ty.last (Ty.arr (8 : Nat) (Ty.arr (4 : Nat) (Ty.int IntKind.i64)))))
  (Prod.fst (Prod.snd (readV (layV (IntKind.wrap IntKind.i64 t) (Prod.fst (shapeV f (IntKind.wrap IntKind.i64 ((12 : Int) + Int.tmod (IntKind.wrap IntKind.i64 z) (13 : Int)))), Prod.snd (shapeV f (IntKind.wrap IntKind.i64
  ((12 : Int) + Int.tmod (IntKind.wrap IntKind.i64 z) (13 : Int))))) (IntKind.wrap IntKind.i64 ((12 : Int) + Int.tmod (IntKind.wrap IntKind.i64 z) (13 : Int)))))), Prod.snd (Prod.snd (readV (layV (IntKind.wrap IntKind.i64
  t) (Prod.fst (shapeV f (IntKind.wrap IntKind.i64 ((12 : Int) + Int.tmod (IntKind.wrap IntKind.i64 z) (13 : Int)))), Prod.snd (shapeV f (IntKind.wrap IntKind.i64 ((12 : Int) + Int.tmod (IntKind.wrap IntKind.i64 z) (13 :
  Int))))) (IntKind.wrap IntKind.i64 ((12 : Int) + Int.tmod (IntKind.wrap IntKind.i64 z) (13 : Int))))))) (Prod.fst (shapeV f (IntKind.wrap IntKind.i64 ((12 : Int) + Int.tmod (IntKind.wrap IntKind.i64 z) (13 : Int)))),
  Prod.snd (shapeV f (IntKind.wrap IntKind.i64 ((12 : Int) + Int.tmod (IntKind.wrap IntKind.i64 z) (13 : Int))))) else false then ((b = true → b = true) ∧ (b = true → b = true) ∧ (b_1 = true → b_1 = true) ∧ (b_1 = true →
  b_1 = true ∧ b_1 = true) ∧ (b_1 = true → b_1 = true)) ∧ Ty.eqb (Ty.arr (32 : Nat) (Ty.int IntKind.i64)) (coefsF (Prod.fst (Prod.snd (readV (layV (IntKind.wrap IntKind.i64 t) (Prod.fst (shapeV f (IntKind.wrap IntKind.i64
  ((12 : Int) + Int.tmod (IntKind.wrap IntKind.i64 z) (13 : Int)))), Prod.snd (shapeV f (IntKind.wrap IntKind.i64 ((12 : Int) + Int.tmod (IntKind.wrap IntKind.i64 z) (13 : Int))))) (IntKind.wrap IntKind.i64 ((12 : Int) +
  Int.tmod (IntKind.wrap IntKind.i64 z) (13 : Int)))))), Prod.snd (Prod.snd (readV (layV (IntKind.wrap IntKind.i64 t) (Prod.fst (shapeV f (IntKind.wrap IntKind.i64 ((12 : Int) + Int.tmod (IntKind.wrap IntKind.i64 z) (13 :
  Int)))), Prod.snd (shapeV f (IntKind.wrap IntKind.i64 ((12 : Int) + Int.tmod (IntKind.wrap IntKind.i64 z) (13 : Int))))) (IntKind.wrap IntKind.i64 ((12 : Int) + Int.tmod (IntKind.wrap IntKind.i64 z) (13 : Int))))))))
  (coefsF (Prod.fst (shapeV f (IntKind.wrap IntKind.i64 ((12 : Int) + Int.tmod (IntKind.wrap IntKind.i64 z) (13 : Int)))), Prod.snd (shapeV f (IntKind.wrap IntKind.i64 ((12 : Int) + Int.tmod (IntKind.wrap IntKind.i64 z) (13
  : Int)))))) = true else ((b = true → b = true) ∧ (b = true → b = true) ∧ (b_1 = true → b_1 = true) ∧ (b_1 = true → b_1 = true ∧ b_1 = true) ∧ (b_1 = true → b_1 = true) ∧ (false = true → false = true)) ∧ false = true
theorem vc30 (f : List Int) (z t : Int) : P30 f z t = vcFun C30 (ann30 f z t) Go.Proofs.Try.f30 [⟨.arr 32 (.int .i64), f⟩, ⟨.int .u8, z⟩, ⟨.int .u8, t⟩] [] (out30 f z t) := by kernel_rfl

end Go.SL.A

/- Packets laid and read. -/
namespace Go.SL.A
open Go Go.SL Go.SL.S
set_option maxRecDepth 100000

theorem hw81 {s : List Int × List (List Int)} {n : Int} (hw : Go.SL.allP (List.flatMap (fun a : AV => a.t.wf a.x) [⟨(.cons (.arr 8 (.int .i64)) (.last (.arr 8 (.arr 4 (.int .i64))))), s⟩, ⟨.int .i64, n⟩] ++ List.flatMap Blk.wf [])) : s.2.length = 8 ∧ ∀ y ∈ s.2, y.length = 4 := by
  simp only [List.flatMap_cons, List.flatMap_nil, Ty.wf, List.append_nil, List.cons_append, List.nil_append, Go.SL.allP] at hw
  exact ⟨hw.2.2.1, fun y hy => (hw.2.2.2.1 y hy).1⟩
theorem pure81 (s : List Int × List (List Int)) (n : Int) (hl : s.2.length = 8 ∧ ∀ y ∈ s.2, y.length = 4) : P81 s n := by
  unfold P81
  by_cases h0 : giveB n = 0
  · have e : packR s n = false := by unfold packR; rw [if_pos (Or.inl h0)]
    rw [decide_eq_true h0, cond_true, e]
    and_intros <;> simp
  · rw [decide_eq_false h0, cond_false]
    cases hr : rightF s.1 with
    | false =>
      have e : packR s n = false := by unfold packR; rw [if_pos (Or.inr hr)]
      rw [Bool.not_false, cond_true, e]
    | true =>
      have e : packR s n = (List.range 8).all fun b => decide (pulsesF (s.2.getD b (List.replicate 4 0)) = (giveV s.1 (giveB n)).getD b 0) := by
        unfold packR; rw [if_neg (by rw [hr]; simp [h0])]
      rw [Bool.not_true, cond_false, e]
      generalize giveV s.1 (giveB n) = k
      simp only [eq_self, true_and, and_true, Int.toNat_natCast]
      refine ⟨0, ⟨rfl, by omega, rfl⟩, fun i hi hw => ?_⟩
      clear hw
      obtain ⟨hi, ho⟩ := hi
      have ho : ((List.range i).all fun b => decide (pulsesF (s.2.getD b (List.replicate 4 0)) = k.getD b 0)) = true := ho
      by_cases h : (i : Int) < 8
      · have hyl := hl.2 _ (getD_mem (d := List.replicate 4 0) (f := s.2) (k := i) (by omega))
        rw [decide_eq_true h, cond_true]
        refine ⟨⟨by omega, by omega⟩, ⟨by decide, hyl.symm, ⟨by omega, by omega⟩, by omega⟩, ?_⟩
        cases hc : decide (pulsesF (s.2.getD i (List.replicate 4 0)) = k.getD i 0) with
        | true =>
          rw [Bool.not_true, cond_false]
          refine ⟨i + 1, step_i (by omega), ⟨by omega, ?_⟩, by omega⟩
          show ((List.range (i + 1)).all _) = true
          rw [List.range_succ, List.all_append, ho]
          simp
          exact of_decide_eq_true hc
        | false =>
          rw [Bool.not_false, cond_true]
          symm
          rw [List.all_eq_false]
          exact ⟨i, List.mem_range.2 (by omega), by rw [hc]; simp⟩
      · have : i = 8 := by omega
        subst this
        rw [decide_eq_false h, cond_false, ho]

theorem rep_zero (m : Nat) : repS { data := { toList := [(0 : UInt8)] } } (m : Int) = bytesOf (List.replicate m 0) := by
  have h : ∀ m : Nat, Lib.repeatL [(0 : UInt8)] m = List.replicate m 0 := by
    intro m
    induction m with
    | zero => rfl
    | succ m ih => rw [Lib.repeatL, ih]; rfl
  unfold repS bytesOf
  rw [Int.toNat_natCast, h, List.map_replicate]; rfl
theorem layV_bad {f n : Int} {s : SHQ} (h : layE f s n ≠ 0) : { data := { toList := [] } } = layV f s n := by
  unfold layV; rw [if_neg h]; rfl
theorem layV_good {f n : Int} {s : SHQ} (h : layE f s n = 0) : layV f s n = bytesOf (layS f s n) := by
  unfold layV; rw [if_pos h]
theorem hw82 {p : Int × List Int × List (List Int)} {n : Int} (hw : Go.SL.allP (List.flatMap (fun a : AV => a.t.wf a.x) [⟨(.cons (.int .i64) (.last (.cons (.arr 8 (.int .i64)) (.last (.arr 8 (.arr 4 (.int .i64))))))), p⟩, ⟨.int .i64, n⟩] ++ List.flatMap Blk.wf [])) : p.2.1.length = 8 ∧ p.2.2.length = 8 ∧ ∀ y ∈ p.2.2, y.length = 4 := by
  simp only [List.flatMap_cons, List.flatMap_nil, Ty.wf, List.append_nil, List.cons_append, List.nil_append, Go.SL.allP] at hw
  obtain ⟨-, -, h1, -, h2, h3, -⟩ := hw
  exact ⟨h1, h2, fun y hy => (h3 y hy).1⟩
theorem head_len (f : Int) {S : List Int} (l1 : S.length = 8) {x : Nat} (hx : x ≤ 8) : (bitsN f 16 ++ sideB (S.take x)).length = 16 + 4 * x := by
  rw [List.length_append, bitsN_len, sideB_len, List.length_take]; omega
theorem head_bit (f : Int) (S : List Int) : Bit (bitsN f 16 ++ sideB S) := bit_app (bitsN_bit _ _) (flat_bit (fun _ => bitsN_bit _ _) _)
theorem rows_bit (f : Int) (S : List Int) (Y : List (List Int)) : Bit (bitsN f 16 ++ sideB S ++ rowsB Y) := bit_app (head_bit f S) (flat_bit (fun _ => bitsN_bit _ _) _)
theorem pure82 (p : Int × List Int × List (List Int)) (n : Int) (hl : p.2.1.length = 8 ∧ p.2.2.length = 8 ∧ ∀ y ∈ p.2.2, y.length = 4) : P82 p n := by
  obtain ⟨f, S, Y⟩ := p
  obtain ⟨l1, l8, l4⟩ := hl
  unfold P82
  simp only at l1 l8 l4
  simp only [eq_self, true_and, and_true]
  by_cases h0 : giveB n = 0
  · have e : layE f (S, Y) n = 1 := by unfold layE; rw [if_pos h0]
    rw [decide_eq_true h0, cond_true, e]
    exact ⟨layV_bad (by rw [e]; decide), rfl⟩
  have hn := giveB_ne.1 h0
  rw [decide_eq_false h0, cond_false]
  rintro b hb
  by_cases hf : f < 0 ∨ 65535 < f
  · have e : layE f (S, Y) n = 7 := by unfold layE; rw [if_neg h0, if_pos hf]
    have hc : (bif b then true else decide (65535 < f)) = true := by
      rw [← hb]
      by_cases h1 : f < 0
      · rw [decide_eq_true h1]; rfl
      · rw [decide_eq_false h1, cond_false]; exact decide_eq_true (by omega)
    rw [hc, cond_true, e]
    exact ⟨by cases b <;> simp, layV_bad (by rw [e]; decide), rfl⟩
  have hb : false = b := by rw [← hb]; exact (decide_eq_false (by omega)).symm
  subst hb
  rw [cond_false, decide_eq_false (show ¬ 65535 < f by omega), cond_false]
  refine ⟨by simp, ?_⟩
  cases hp : packR (S, Y) n with
  | false =>
    have e : layE f (S, Y) n = 3 := by unfold layE; rw [if_neg h0, if_neg hf, hp]; rfl
    rw [Bool.not_false, cond_true, e]
    exact ⟨layV_bad (by rw [e]; decide), rfl⟩
  | true =>
    have e : layE f (S, Y) n = 0 := by unfold layE; rw [if_neg h0, if_neg hf, hp]; rfl
    have R := packR_iff.1 hp
    obtain ⟨k8, kf, ko⟩ := give_fit R.rt hn
    have hlen := layB_len (f := f) R l1 l8
    have hrow := R.row
    have hr := R.rt
    simp only at k8 kf ko hlen hrow hr
    generalize giveV S (giveB n) = k at *
    have mono := fun b (hb : b ≤ 8) => offK_mono k hb
    rw [Bool.not_true, cond_false]
    have e16 : (2 : Int) ^ 16 = 65536 := by decide
    have e16' : (2 : Int) ^ (Int.toNat 16) = 65536 := by decide
    refine ⟨⟨by decide, by omega, by omega⟩, 0, ⟨⟨rfl, ?_, by omega, ?_⟩, by omega⟩, fun x hx _ => ?_⟩
    · rw [List.take_zero]; unfold sideB; simp
    · rw [List.take_zero]; unfold sideB; simp
    by_cases h8 : (x : Int) < 8
    · rw [decide_eq_true h8, cond_true]
      have hh := head_len f l1 (x := x) (by omega)
      have hB := head_bit f (S.take x)
      have hs := right_at hr x
      have e4 : (2 : Int) ^ 4 = 16 := by decide
      have e4' : (2 : Int) ^ (Int.toNat 4) = 16 := by decide
      have hap : bitsN f 16 ++ sideB (S.take x) ++ bitsN (S.getD x 0) 4 = bitsN f 16 ++ sideB (S.take (x + 1)) := by rw [sideB_take S (by omega), List.append_assoc]
      rw [Int.toNat_natCast, wL_pack hB (by omega), hap]
      exact ⟨⟨by omega, by omega⟩, ⟨⟨wrOk_pack hB (by omega) (by omega), by omega⟩, by decide, by omega, by omega⟩, x + 1, ⟨step_i (by omega), rfl, by omega, rfl⟩, by omega, by omega⟩
    · have : x = 8 := by omega
      subst this
      have t8 : S.take 8 = S := List.take_of_length_le (by omega)
      rw [decide_eq_false h8, cond_false, t8]
      have hh := head_len f l1 (x := 8) (by omega)
      rw [t8] at hh
      refine ⟨0, ⟨⟨rfl, ?_, ?_, ?_⟩, by omega⟩, fun x hx _ => ?_⟩
      · rw [List.take_zero]; unfold rowsB; simp
      · rw [List.take_zero]; unfold rowsB; rw [List.flatMap_nil, List.append_nil, hh]; rfl
      · rw [List.take_zero]; unfold rowsB; simp
      have hLx := hlen x hx
      have hBx := rows_bit f S (Y.take x)
      have hmx := mono x hx
      by_cases h8 : (x : Int) < 8
      · rw [decide_eq_true h8, cond_true, Int.toNat_natCast]
        have hy4 := l4 _ (getD_mem (f := Y) (k := x) (d := List.replicate 4 0) (by omega))
        have hk := kf x (by omega)
        have hpx := hrow x (by omega)
        obtain ⟨i1, i2, i3, i4, i5⟩ := index_row hy4 hk hpx
        have hL1 := hlen (x + 1) (by omega)
        have hrb : rowB (Y.getD x (List.replicate 4 0)) = bitsN (indexF (Y.getD x (List.replicate 4 0))).1 (bitsK (k.getD x 0)) := by unfold rowB; rw [hpx]
        have hle := bitsK_le hk
        have hmx1 := mono (x + 1) (by omega)
        have hap : bitsN f 16 ++ sideB S ++ rowsB (Y.take x) ++ rowB (Y.getD x (List.replicate 4 0)) = bitsN f 16 ++ sideB S ++ rowsB (Y.take (x + 1)) := by rw [rowsB_take Y (by omega)]; simp only [List.append_assoc]
        rw [hpx, cost_bits, Int.toNat_natCast, wL_pack hBx rfl, ← hrb, hap]
        rw [offK] at hmx1
        refine ⟨⟨by omega, by omega⟩, ⟨by decide, hy4.symm⟩, ⟨by decide, hy4.symm, ⟨wrOk_pack hBx rfl (by omega), by omega⟩, ⟨by omega, by omega⟩, i1, i3⟩, x + 1, ⟨step_i (by omega), rfl, ?_, rfl⟩, by omega, by omega⟩
        have := hlen (x + 1) (by omega)
        rw [offK] at this
        omega
      · have : x = 8 := by omega
        subst this
        have t8 : Y.take 8 = Y := List.take_of_length_le (by omega)
        rw [decide_eq_false h8, cond_false, t8]
        rw [t8] at hLx hBx
        have hlb : layB f (S, Y) = bitsN f 16 ++ sideB S ++ rowsB Y := rfl
        rw [← hlb] at hLx hBx ⊢
        have hpl := packB_len (layB f (S, Y))
        have hbs := bytes_size (packB (layB f (S, Y)))
        have hw1 : IntKind.i64.wrap (n - 2) = n - 2 := w64 (by omega) (by omega)
        have hw2 : IntKind.i64.wrap (n - 2 - ((packB (layB f (S, Y))).length : Int)) = (((n - 2).toNat - (packB (layB f (S, Y))).length : Nat) : Int) := by rw [w64 (by omega) (by omega)]; omega
        rw [hbs, hw1, hw2, rep_zero]
        have happ : bytesOf (packB (layB f (S, Y))) ++ bytesOf (List.replicate ((n - 2).toNat - (packB (layB f (S, Y))).length) 0) = bytesOf (bodyS f (S, Y) n) := bytes_app _ _
        have hbl := body_len (f := f) (s := (S, Y)) hn.1 (by omega)
        have hbb : Byt (bodyS f (S, Y) n) := by
          rw [body_eq hn.1 (by omega)]; exact packB_byt (bit_app hBx (bit_zero _))
        rw [happ, bytes_size, bytes_size, List.length_replicate, hbl, ofBytes_bytes hbb, layV_good e, e]
        exact ⟨⟨⟨by omega, by omega⟩, by decide, by omega, by omega⟩, rfl, rfl⟩

theorem getV_ok {o : ByteArray} {a n : Int} (h : a + n ≤ 8 * (ByteArray.size o : Int)) : getV o a n = getN (bitsS o) a.toNat n.toNat ∧ getA o a n = a + n := by
  have hn : ¬ 8 * (ByteArray.size o : Int) - a < n := by omega
  unfold getV getA
  rw [if_neg hn, if_neg hn]; exact ⟨rfl, rfl⟩
theorem okTo_false {U k : List Int} {x : Nat} (hx : x < 8) (h : ¬ rowI U k x < countF 4 (k.getD x 0)) : okTo U k 8 = false :=
  List.all_eq_false.2 ⟨x, List.mem_range.2 hx, by rw [decide_eq_false h]; simp⟩
theorem okTo_succ {U k : List Int} {x : Nat} (h : okTo U k x = true) (h2 : rowI U k x < countF 4 (k.getD x 0)) : okTo U k (x + 1) = true := by
  unfold okTo at *
  rw [List.range_succ, List.all_append, h, List.all_cons, List.all_nil, decide_eq_true h2]; rfl
theorem rowsR_step {U k : List Int} {x : Nat} (hx : x < 8) (v : List Int) (hv : v = vecF 4 (k.getD x 0) (rowI U k x)) : List.set (rowsR U k x ++ List.drop x (List.replicate 8 (List.replicate 4 0))) x v = rowsR U k (x + 1) ++ List.drop (x + 1) (List.replicate 8 (List.replicate 4 0)) := by
  have e : rowsR U k (x + 1) = rowsR U k x ++ [v] := by
    unfold rowsR
    rw [List.range_succ, List.map_append, hv]; rfl
  have hl := rowsR_len U k x
  rw [e, List.set_append_right _ _ (by omega), hl, Nat.sub_self, List.append_assoc]
  congr 1
  rw [List.drop_eq_getElem_cons (by rw [List.length_replicate]; exact hx)]
  rfl
theorem pure83 (s : ByteArray) : P83 s := by
  unfold P83
  simp only [eq_self, true_and, and_true]
  have hlen := ofBytes_len s
  by_cases h0 : giveB (ByteArray.size s : Int) = 0
  · have e : readS (ofBytes s) = (zeroP, 1) := by unfold readS; rw [hlen, if_pos h0]
    unfold readV readE
    rw [decide_eq_true h0, cond_true, e]
    exact ⟨rfl, rfl, rfl, rfl⟩
  have hn := giveB_ne.1 h0
  rw [decide_eq_false h0, cond_false]
  refine ⟨⟨by omega, by omega⟩, ?_⟩
  by_cases hS : ¬ sealS ((ofBytes s).take (ByteArray.size s - 2)) = ofBytes s
  · have e : readS (ofBytes s) = (zeroP, 4) := by unfold readS; rw [hlen, if_neg h0, if_neg hS]
    have e2 : openE s = 4 := by unfold openE; rw [if_neg hS]
    unfold readV readE
    rw [e, e2]
    exact ⟨rfl, rfl, rfl, rfl⟩
  have hS := Decidable.not_not.1 hS
  have e2 : openE s = 0 := by unfold openE; rw [if_pos hS]
  have hB : Byt ((ofBytes s).take (ByteArray.size s - 2)) := fun x hx => ofBytes_byt s x (List.mem_of_mem_take hx)
  have eo : openS s = bytesOf ((ofBytes s).take (ByteArray.size s - 2)) := by unfold openS; rw [if_pos hS]
  have e : readS (ofBytes s) = readU (bitsS (openS s)) (ByteArray.size s : Int) := by
    unfold readS
    rw [hlen, if_neg h0, if_pos hS, eo]
    unfold bitsS
    rw [ofBytes_bytes hB]
  have hos : (ByteArray.size (openS s) : Int) = (ByteArray.size s : Int) - 2 := by rw [eo, bytes_size, List.length_take]; omega
  have hUl := bitsS_len (openS s)
  have hUb := bitsS_bit (openS s)
  unfold readV readE
  rw [e, e2, decide_eq_true rfl, Bool.not_true, cond_false]
  have R := rdU hUb hn (by omega)
  have hR := R.rt
  have hkf := R.kf
  have hoff := R.off
  have g0 := getV_ok (o := openS s) (a := 0) (n := 16) (by omega)
  rw [g0.1, g0.2]
  have gs := fun x (hx : x < 8) => getV_ok (o := openS s) (a := 16 + 4 * (x : Int)) (n := 4) (by omega)
  have hgb := giveB_ne.2 hn
  -- what is read of the bits
  have hbad : ∀ x, x < 8 → ¬ rowI (bitsS (openS s)) (giveV (sideR (bitsS (openS s))) (giveB (ByteArray.size s : Int))) x < countF 4 ((giveV (sideR (bitsS (openS s))) (giveB (ByteArray.size s : Int))).getD x 0) → readU (bitsS (openS s)) (ByteArray.size s : Int) = (zeroP, 3) := fun x hx h => by
    unfold readU; dsimp only; rw [okTo_false hx h]; rfl
  have hend : okTo (bitsS (openS s)) (giveV (sideR (bitsS (openS s))) (giveB (ByteArray.size s : Int))) 8 = true → readU (bitsS (openS s)) (ByteArray.size s : Int) = if ((bitsS (openS s)).drop (offK (giveV (sideR (bitsS (openS s))) (giveB (ByteArray.size s : Int))) 8)).all (fun b => decide (b ≠ 1)) = true then ((getN (bitsS (openS s)) 0 16, sideR (bitsS (openS s)), rowsR (bitsS (openS s)) (giveV (sideR (bitsS (openS s))) (giveB (ByteArray.size s : Int))) 8), 0) else (zeroP, 3) := fun h => by
    unfold readU; dsimp only; rw [h, Bool.true_and]
  have hpul : ∀ x, x < 8 → pulV (openS s) ((offK (giveV (sideR (bitsS (openS s))) (giveB (ByteArray.size s : Int))) x : Nat) : Int) ((giveV (sideR (bitsS (openS s))) (giveB (ByteArray.size s : Int))).getD x 0) = (if rowI (bitsS (openS s)) (giveV (sideR (bitsS (openS s))) (giveB (ByteArray.size s : Int))) x < countF 4 ((giveV (sideR (bitsS (openS s))) (giveB (ByteArray.size s : Int))).getD x 0) then vecF 4 ((giveV (sideR (bitsS (openS s))) (giveB (ByteArray.size s : Int))).getD x 0) (rowI (bitsS (openS s)) (giveV (sideR (bitsS (openS s))) (giveB (ByteArray.size s : Int))) x) else List.replicate 4 0) ∧ pulE (openS s) ((offK (giveV (sideR (bitsS (openS s))) (giveB (ByteArray.size s : Int))) x : Nat) : Int) ((giveV (sideR (bitsS (openS s))) (giveB (ByteArray.size s : Int))).getD x 0) = (if rowI (bitsS (openS s)) (giveV (sideR (bitsS (openS s))) (giveB (ByteArray.size s : Int))) x < countF 4 ((giveV (sideR (bitsS (openS s))) (giveB (ByteArray.size s : Int))).getD x 0) then 0 else 3) := fun x _ => by
    unfold pulV pulE rowI; rw [Int.toNat_natCast]; exact ⟨rfl, rfl⟩
  have hside := fun x (hx : x < 8) => sideR_at (bitsS (openS s)) hx
  have hsl := sideR_len (bitsS (openS s))
  generalize hkk : giveV (sideR (bitsS (openS s))) (giveB (ByteArray.size s : Int)) = k at *
  refine ⟨⟨by omega, ⟨by decide, by omega⟩, by decide, by decide⟩, 0, ⟨⟨rfl, by omega, rfl, by simp⟩, by omega⟩, fun x hx _ => ?_⟩
  by_cases h8 : (x : Int) < 8
  · rw [decide_eq_true h8, cond_true, (gs x (by omega)).1, (gs x (by omega)).2, Int.toNat_natCast]
    refine ⟨⟨by omega, ⟨by omega, by omega⟩, by decide, ⟨by omega, by omega⟩, by omega⟩, x + 1, ⟨step_i (by omega), by omega, set_step (by omega) (by rw [List.length_replicate]; omega) ?_⟩, by omega, by omega⟩
    have h1 := hside x (by omega)
    rw [List.getD_eq_getElem?_getD, List.getElem?_eq_getElem (by omega)] at h1
    rw [List.getElem?_eq_getElem (by omega)]
    refine congrArg some ?_
    refine Eq.trans h1 ?_
    rw [show (16 + 4 * (x : Int)).toNat = 16 + 4 * x by omega]; rfl
  · have : x = 8 := by omega
    subst this
    have t8 : List.take 8 (sideR (bitsS (openS s))) ++ List.drop 8 (List.replicate 8 0) = sideR (bitsS (openS s)) := by
      rw [List.take_of_length_le (by omega), List.drop_eq_nil_of_le (by rw [List.length_replicate]; omega), List.append_nil]
    rw [decide_eq_false h8, cond_false, t8, hkk]
    refine ⟨0, ⟨⟨rfl, rfl, rfl, rfl⟩, by omega, rfl⟩, fun x hx _ => ?_⟩
    obtain ⟨hx, hok⟩ := hx
    have hox := hoff x hx
    by_cases h8 : (x : Int) < 8
    · have hox1 := hoff (x + 1) (by omega)
      rw [offK] at hox1
      obtain ⟨p1, p2⟩ := hpul x (by omega)
      rw [decide_eq_true h8, cond_true, Int.toNat_natCast, p1, p2]
      refine ⟨⟨⟨by omega, by omega⟩, by omega, by omega, hkf x (by omega), ⟨by omega, by omega⟩, ⟨by omega, by omega⟩, by omega⟩, ?_⟩
      by_cases hlt : rowI (bitsS (openS s)) k x < countF 4 (k.getD x 0)
      · rw [if_pos hlt, if_pos hlt, decide_eq_true rfl, Bool.not_true, cond_false]
        refine ⟨x + 1, ⟨step_i (by omega), by rw [offK]; omega, rowsR_step (by omega) _ rfl⟩, ⟨by omega, okTo_succ hok hlt⟩, by omega⟩
      · rw [if_neg hlt, if_neg hlt, hbad x (by omega) hlt, decide_eq_false (by decide), Bool.not_false, cond_true]
        exact ⟨rfl, rfl, rfl, rfl⟩
    · have : x = 8 := by omega
      subst this
      rw [decide_eq_false h8, cond_false, Int.toNat_natCast, hend hok, (List.drop_eq_nil_of_le (by rw [List.length_replicate]; omega) : List.drop 8 (List.replicate 8 (List.replicate 4 (0 : Int))) = []), List.append_nil]
      refine ⟨⟨by omega, by omega, by omega⟩, ?_⟩
      cases hz : ((bitsS (openS s)).drop (offK k 8)).all (fun b => decide (b ≠ 1)) with
      | true =>
        rw [Bool.not_true, cond_false, if_pos rfl]
        exact ⟨rfl, rfl, rfl, rfl⟩
      | false =>
        rw [Bool.not_false, cond_true, if_neg (by simp)]
        exact ⟨rfl, rfl, rfl, rfl⟩
theorem hw30 {f : List Int} {z t : Int} (hw : Go.SL.allP (List.flatMap (fun a : AV => a.t.wf a.x) [⟨.arr 32 (.int .i64), f⟩, ⟨.int .u8, z⟩, ⟨.int .u8, t⟩] ++ List.flatMap Blk.wf [])) : f.length = 32 ∧ (0 ≤ z ∧ z ≤ 255) ∧ 0 ≤ t ∧ t ≤ 255 := by
  simp only [List.flatMap_cons, List.flatMap_nil, Ty.wf, List.append_nil, List.cons_append, List.nil_append, Go.SL.allP] at hw
  obtain ⟨h1, -, h2, h3, h4, h5⟩ := hw
  exact ⟨h1, ⟨h2, h3⟩, h4, h5⟩
theorem shape_rtp (f : List Int) {n : Int} (hn : 12 ≤ n ∧ n ≤ 24) : RtP (shapeV f n) n := by
  have hB : giveB n = 8 * n - 64 := giveB_eq hn
  have hV : shapeV f n = shapeF f (8 * n - 64) := by unfold shapeV; rw [hB, if_neg (by omega)]
  have hr := steps_right (clampF f)
  obtain ⟨-, gV⟩ := giveV_ok (bits := 8 * n - 64) hr (by omega)
  obtain ⟨left, -, g1, -, g2⟩ := give_end (stepsF (clampF f)) (B := 8 * n - 64) (by omega)
  rw [← gV] at g1 g2
  refine ⟨hn, by rw [hV]; exact hr, fun b hb => ?_⟩
  rw [hV, hB]
  show pulsesF ((shapeF f (8 * n - 64)).2.getD b (List.replicate 4 0)) = (giveV (stepsF (clampF f)) (8 * n - 64)).getD b 0
  have e : (shapeF f (8 * n - 64)).2.getD b (List.replicate 4 0) = findV (ofF (clampF f) b) ((stepsF (clampF f)).getD b 0) ((giveV (stepsF (clampF f)) (8 * n - 64)).getD b 0) := by
    rw [List.getD_eq_getElem?_getD]
    have := shapeY_at (clampF f) (stepsF (clampF f)) (giveV (stepsF (clampF f)) (8 * n - 64)) hb
    unfold shapeF
    rw [this]; rfl
  rw [e]
  exact Found.pulses (findV_ok (held_of f b hb) (right_at hr b) (g2 b hb).1).2 (g2 b hb).1.2
theorem read_layV {f n : Int} {s : SHQ} (h : RtP s n) (l1 : s.1.length = 8) (l8 : s.2.length = 8) (l4 : ∀ y ∈ s.2, y.length = 4) (hf : 0 ≤ f ∧ f ≤ 65535) : layE f s n = 0 ∧ ByteArray.size (layV f s n) = n.toNat ∧ readV (layV f s n) = (f, s) ∧ readE (layV f s n) = 0 ∧ Byt (layS f s n) := by
  have e : layE f s n = 0 := by unfold layE; rw [if_neg (giveB_ne.2 h.sz), if_neg (by omega), packR_iff.2 h]; rfl
  obtain ⟨r1, r2⟩ := read_lay (f := f) h l1 l8 l4 hf
  obtain ⟨-, -, hk3⟩ := give_fit h.rt h.sz
  have hb : Byt (layS f s n) := by
    unfold layS
    refine seal_byt ?_
    rw [body_eq h.sz.1 (by rw [layB_all h l1 l8]; exact hk3)]
    exact packB_byt (bit_app (layB_bit f s) (bit_zero _))
  rw [layV_good e, bytes_size, r1]
  unfold readV readE
  rw [ofBytes_bytes hb, r2]
  exact ⟨e, rfl, rfl, rfl, hb⟩
theorem pure30 (f : List Int) (z t : Int) (hw : f.length = 32 ∧ (0 ≤ z ∧ z ≤ 255) ∧ 0 ≤ t ∧ t ≤ 255) : P30 f z t := by
  obtain ⟨hl, hz, ht⟩ := hw
  unfold P30
  have d := tdm z (k := 13) (by decide)
  rw [w64 (n := z) (by omega) (by omega), w64 (n := 12 + z.tmod 13) (by omega) (by omega), w64 (n := t) (by omega) (by omega)]
  have hn : 12 ≤ 12 + z.tmod 13 ∧ 12 + z.tmod 13 ≤ 24 := by omega
  clear d
  generalize 12 + z.tmod 13 = n at *
  have h := shp f hn
  have hR := shape_rtp f hn
  have ⟨q1, q2, q4⟩ := h.sw
  rw [h.ok]
  clear h
  have hp := packR_iff.2 hR
  generalize shapeV f n = q at *
  obtain ⟨S, Y⟩ := q
  obtain ⟨e1, e2, e3, e4, -⟩ := read_layV (f := t) hR q1 q2 q4 (by omega)
  dsimp only at *
  rw [hp, e1, e3, e4]
  refine ⟨by decide, ?_⟩
  rw [decide_eq_true rfl, Bool.not_true, cond_false, cond_false]
  rintro _ rfl _ rfl
  rw [cond_true, cond_true]
  have e5 : Ty.eqb (.cons (.arr 8 (.int .i64)) (.last (.arr 8 (.arr 4 (.int .i64))))) (S, Y) (S, Y) = true := eqbS
  rw [e5, cond_true]
  refine ⟨by simp, ?_⟩
  rw [eqbA (coefs_len ⟨q1, q2, q4⟩) (coefs_len ⟨q1, q2, q4⟩)]; exact decide_eq_true rfl
end Go.SL.A

/- Functions do what they are held to do. -/
namespace Go.SL.A
open Go Go.SL Go.SL.S
theorem snd81 : Sound Go.Proofs.Try.prog G81 := snd122.add ⟨_, Go.Proofs.Try.func81, by kernel_rfl, by kernel_rfl⟩ (by
  intro args ins out h hp
  unfold sp81 at h
  split at h
  · rename_i s n
    cases h
    exact vcFun_ok (C := C81) good snd122 Meth.none mix Go.Proofs.Try.func81 (ann81 s n) (fun hw => by rw [← vc81 s n]; exact pure81 s n (hw81 hw))
  · cases h)

theorem snd82 : Sound Go.Proofs.Try.prog G82 := snd81.add ⟨_, Go.Proofs.Try.func82, by kernel_rfl, by kernel_rfl⟩ (by
  intro args ins out h hp
  unfold sp82 at h
  split at h
  · rename_i p n
    cases h
    exact vcFun_ok (C := C82) good snd81 Meth.none mix Go.Proofs.Try.func82 (ann82 p n) (fun hw => by rw [← vc82 p n]; exact pure82 p n (hw82 hw))
  · cases h)

theorem snd83 : Sound Go.Proofs.Try.prog G83 := snd82.add ⟨_, Go.Proofs.Try.func83, by kernel_rfl, by kernel_rfl⟩ (by
  intro args ins out h hp
  unfold sp83 at h
  split at h
  · rename_i s
    cases h
    exact vcFun_ok (C := C83) good snd82 Meth.none mix Go.Proofs.Try.func83 (ann83 s) (fun hw => by rw [← vc83 s]; exact pure83 s)
  · cases h)

theorem snd30 : Sound Go.Proofs.Try.prog G30 := snd83.add ⟨_, Go.Proofs.Try.func30, by kernel_rfl, by kernel_rfl⟩ (by
  intro args ins out h hp
  unfold sp30 at h
  split at h
  · rename_i f z t
    cases h
    exact vcFun_ok (C := C30) good snd83 Meth.none mix Go.Proofs.Try.func30 (ann30 f z t) (fun hw => by rw [← vc30 f z t]; exact pure30 f z t (hw30 hw))
  · cases h)

end Go.SL.A
