/- PvqAll returns true, whatever its arguments, which read afterwards as before: no condition. -/
import Derived.Test.YthhfccnhkadkcaaRows
import Derived.Test.YthhfccnhkadkcaaPvqV
import Derived.Test.YthhfccnhkadkcaaPvqB
import Derived.Test.YthhfccnhkadkcaaKb
import Derived.Test.YthhfccnhkadkcaaT

/- Functions and what they are held to do: bound to their code. -/
namespace Go.SL.A
open Go Go.SL Go.SL.S
set_option maxRecDepth 100000
noncomputable def C10 : Ctx := ⟨Go.Proofs.Try.prog, D, G47, (fun _ _ => none), fun _ => []⟩
def ann10 (k i : Int) : Nat → St → Option Ann := fun _ _ => none
def out10 (k i : Int) : COut := ⟨[], .v .bool true, [], []⟩
def sp10 : Spec := fun args ins => match args, ins with
  | [⟨.int .u8, k⟩, ⟨.int .u32, i⟩], [] => some (out10 k i)
  | _, _ => none
def G10 := addG G47 10 sp10
def P10 (k i : Int) : Prop :=
  (9 : Int) ≠ (0 : Int) ∧ ((0 : Int) ≤ Int.tmod (IntKind.wrap IntKind.i64 k) (9 : Int) ∧ Int.tmod (IntKind.wrap IntKind.i64 k) (9 : Int) ≤ (8 : Int)) ∧ bif !decide ((↑(List.length (allF (Int.toNat (Int.tmod (IntKind.wrap
  IntKind.i64 k) (9 : Int))))) : Int) = countF (4 : Int) (Int.tmod (IntKind.wrap IntKind.i64 k) (9 : Int))) then false = true else (↑(List.length (allF (Int.toNat (Int.tmod (IntKind.wrap IntKind.i64 k) (9 : Int))))) : Int)
  ≠ (0 : Int) ∧ (((0 : Int) ≤ Int.tmod (IntKind.wrap IntKind.i64 i) (↑(List.length (allF (Int.toNat (Int.tmod (IntKind.wrap IntKind.i64 k) (9 : Int))))) : Int) ∧ Int.tmod (IntKind.wrap IntKind.i64 i) (↑(List.length (allF
  (Int.toNat (Int.tmod (IntKind.wrap IntKind.i64 k) (9 : Int))))) : Int) < (↑(List.length (allF (Int.toNat (Int.tmod (IntKind.wrap IntKind.i64 k) (9 : Int))))) : Int)) ∧ (0 : Nat) + Int.toNat (Int.tmod (IntKind.wrap
  IntKind.i64 i) (↑(List.length (allF (Int.toNat (Int.tmod (IntKind.wrap IntKind.i64 k) (9 : Int))))) : Int)) < List.length (allF (Int.toNat (Int.tmod (IntKind.wrap IntKind.i64 k) (9 : Int)))) ∧ (4 : Nat) ≤
  (9223372036854775807 : Nat) ∧ (0 : Nat) + Int.toNat (Int.tmod (IntKind.wrap IntKind.i64 i) (↑(List.length (allF (Int.toNat (Int.tmod (IntKind.wrap IntKind.i64 k) (9 : Int))))) : Int)) < List.length (allF (Int.toNat
  (Int.tmod (IntKind.wrap IntKind.i64 k) (9 : Int)))) ∧ (4 : Nat) = List.length (List.getD (allF (Int.toNat (Int.tmod (IntKind.wrap IntKind.i64 k) (9 : Int)))) ((0 : Nat) + Int.toNat (Int.tmod (IntKind.wrap IntKind.i64 i)
  (↑(List.length (allF (Int.toNat (Int.tmod (IntKind.wrap IntKind.i64 k) (9 : Int))))) : Int))) (List.replicate (4 : Nat) (0 : Int)))) ∧ ∀ (b : Bool), (!decide (vecE (4 : Int) (Int.tmod (IntKind.wrap IntKind.i64 k) (9 :
  Int)) (Int.tmod (IntKind.wrap IntKind.i64 i) (↑(List.length (allF (Int.toNat (Int.tmod (IntKind.wrap IntKind.i64 k) (9 : Int))))) : Int)) = (0 : Int))) = b → ∀ (b_1 : Bool), (bif b then true else !decide (Prod.snd (indexF
  (List.getD (allF (Int.toNat (Int.tmod (IntKind.wrap IntKind.i64 k) (9 : Int)))) ((0 : Nat) + Int.toNat (Int.tmod (IntKind.wrap IntKind.i64 i) (↑(List.length (allF (Int.toNat (Int.tmod (IntKind.wrap IntKind.i64 k) (9 :
  Int))))) : Int))) (List.replicate (4 : Nat) (0 : Int)))) = (0 : Int))) = b_1 → ∀ (b_2 : Bool), (bif b_1 then true else !decide (Prod.fst (indexF (List.getD (allF (Int.toNat (Int.tmod (IntKind.wrap IntKind.i64 k) (9 :
  Int)))) ((0 : Nat) + Int.toNat (Int.tmod (IntKind.wrap IntKind.i64 i) (↑(List.length (allF (Int.toNat (Int.tmod (IntKind.wrap IntKind.i64 k) (9 : Int))))) : Int))) (List.replicate (4 : Nat) (0 : Int)))) = Int.tmod
  (IntKind.wrap IntKind.i64 i) (↑(List.length (allF (Int.toNat (Int.tmod (IntKind.wrap IntKind.i64 k) (9 : Int))))) : Int))) = b_2 → (((!b) = true → (!b) = true) ∧ (b = false → (!b) = true) ∧ ((!b_1) = true → (!b_1) = true
  ∧ (!b_1) = true) ∧ (b_1 = false → (!b_1) = true) ∧ ((!b_2) = true → (!b_2) = true) ∧ ((!b_2) = true → (!b_2) = true) ∧ (b_2 = false → (!b_2) = true)) ∧ bif bif b_2 then true else !decide ((↑(List.length (vecF (4 : Int)
  (Int.tmod (IntKind.wrap IntKind.i64 k) (9 : Int)) (Int.tmod (IntKind.wrap IntKind.i64 i) (↑(List.length (allF (Int.toNat (Int.tmod (IntKind.wrap IntKind.i64 k) (9 : Int))))) : Int)))) : Int) = (4 : Int)) then false = true
  else ∀ (b : Bool), decide (List.getD (vecF (4 : Int) (Int.tmod (IntKind.wrap IntKind.i64 k) (9 : Int)) (Int.tmod (IntKind.wrap IntKind.i64 i) (↑(List.length (allF (Int.toNat (Int.tmod (IntKind.wrap IntKind.i64 k) (9 :
  Int))))) : Int))) (0 : Nat) (0 : Int) = List.getD (List.getD (allF (Int.toNat (Int.tmod (IntKind.wrap IntKind.i64 k) (9 : Int)))) ((0 : Nat) + Int.toNat (Int.tmod (IntKind.wrap IntKind.i64 i) (↑(List.length (allF
  (Int.toNat (Int.tmod (IntKind.wrap IntKind.i64 k) (9 : Int))))) : Int))) (List.replicate (4 : Nat) (0 : Int))) (0 : Nat) (0 : Int)) = b → ∀ (b_3 : Bool), (bif b then decide (List.getD (vecF (4 : Int) (Int.tmod
  (IntKind.wrap IntKind.i64 k) (9 : Int)) (Int.tmod (IntKind.wrap IntKind.i64 i) (↑(List.length (allF (Int.toNat (Int.tmod (IntKind.wrap IntKind.i64 k) (9 : Int))))) : Int))) (1 : Nat) (0 : Int) = List.getD (List.getD (allF
  (Int.toNat (Int.tmod (IntKind.wrap IntKind.i64 k) (9 : Int)))) ((0 : Nat) + Int.toNat (Int.tmod (IntKind.wrap IntKind.i64 i) (↑(List.length (allF (Int.toNat (Int.tmod (IntKind.wrap IntKind.i64 k) (9 : Int))))) : Int)))
  (List.replicate (4 : Nat) (0 : Int))) (1 : Nat) (0 : Int)) else false) = b_3 → ∀ (b_4 : Bool), (bif b_3 then decide (List.getD (vecF (4 : Int) (Int.tmod (IntKind.wrap IntKind.i64 k) (9 : Int)) (Int.tmod (IntKind.wrap
  IntKind.i64 i) (↑(List.length (allF (Int.toNat (Int.tmod (IntKind.wrap IntKind.i64 k) (9 : Int))))) : Int))) (2 : Nat) (0 : Int) = List.getD (List.getD (allF (Int.toNat (Int.tmod (IntKind.wrap IntKind.i64 k) (9 : Int))))
  ((0 : Nat) + Int.toNat (Int.tmod (IntKind.wrap IntKind.i64 i) (↑(List.length (allF (Int.toNat (Int.tmod (IntKind.wrap IntKind.i64 k) (9 : Int))))) : Int))) (List.replicate (4 : Nat) (0 : Int))) (2 : Nat) (0 : Int)) else
  false) = b_4 → (((0 : Int) ≤ (0 : Int) ∧ (0 : Int) < (↑(List.length (vecF (4 : Int) (Int.tmod (IntKind.wrap IntKind.i64 k) (9 : Int)) (Int.tmod (IntKind.wrap IntKind.i64 i) (↑(List.length (allF (Int.toNat (Int.tmod
  (IntKind.wrap IntKind.i64 k) (9 : Int))))) : Int)))) : Int)) ∧ (0 : Nat) < List.length (vecF (4 : Int) (Int.tmod (IntKind.wrap IntKind.i64 k) (9 : Int)) (Int.tmod (IntKind.wrap IntKind.i64 i) (↑(List.length (allF
  (Int.toNat (Int.tmod (IntKind.wrap IntKind.i64 k) (9 : Int))))) : Int))) ∧ ((0 : Int) ≤ Int.tmod (IntKind.wrap IntKind.i64 i) (↑(List.length (allF (Int.toNat (Int.tmod (IntKind.wrap IntKind.i64 k) (9 : Int))))) : Int) ∧
  Int.tmod (IntKind.wrap IntKind.i64 i) (↑(List.length (allF (Int.toNat (Int.tmod (IntKind.wrap IntKind.i64 k) (9 : Int))))) : Int) < (↑(List.length (allF (Int.toNat (Int.tmod (IntKind.wrap IntKind.i64 k) (9 : Int))))) :
  Int)) ∧ ((0 : Int) ≤ (0 : Int) ∧ (0 : Int) < (↑(4 : Nat) : Int)) ∧ (0 : Nat) + Int.toNat (Int.tmod (IntKind.wrap IntKind.i64 i) (↑(List.length (allF (Int.toNat (Int.tmod (IntKind.wrap IntKind.i64 k) (9 : Int))))) : Int))
  < List.length (allF (Int.toNat (Int.tmod (IntKind.wrap IntKind.i64 k) (9 : Int)))) ∧ (0 : Nat) < (4 : Nat) ∧ (b = true → b = true ∧ (0 : Int) ≤ (1 : Int) ∧ (1 : Int) < (↑(List.length (vecF (4 : Int) (Int.tmod
  (IntKind.wrap IntKind.i64 k) (9 : Int)) (Int.tmod (IntKind.wrap IntKind.i64 i) (↑(List.length (allF (Int.toNat (Int.tmod (IntKind.wrap IntKind.i64 k) (9 : Int))))) : Int)))) : Int)) ∧ (b = true → b = true ∧ (1 : Nat) <
  List.length (vecF (4 : Int) (Int.tmod (IntKind.wrap IntKind.i64 k) (9 : Int)) (Int.tmod (IntKind.wrap IntKind.i64 i) (↑(List.length (allF (Int.toNat (Int.tmod (IntKind.wrap IntKind.i64 k) (9 : Int))))) : Int)))) ∧ (b =
  true → b = true ∧ b = true ∧ (0 : Int) ≤ Int.tmod (IntKind.wrap IntKind.i64 i) (↑(List.length (allF (Int.toNat (Int.tmod (IntKind.wrap IntKind.i64 k) (9 : Int))))) : Int) ∧ Int.tmod (IntKind.wrap IntKind.i64 i)
  (↑(List.length (allF (Int.toNat (Int.tmod (IntKind.wrap IntKind.i64 k) (9 : Int))))) : Int) < (↑(List.length (allF (Int.toNat (Int.tmod (IntKind.wrap IntKind.i64 k) (9 : Int))))) : Int)) ∧ (b = true → b = true ∧ (0 : Int)
  ≤ (1 : Int) ∧ (1 : Int) < (↑(4 : Nat) : Int)) ∧ (b = true → b = true ∧ (0 : Nat) + Int.toNat (Int.tmod (IntKind.wrap IntKind.i64 i) (↑(List.length (allF (Int.toNat (Int.tmod (IntKind.wrap IntKind.i64 k) (9 : Int))))) :
  Int)) < List.length (allF (Int.toNat (Int.tmod (IntKind.wrap IntKind.i64 k) (9 : Int)))) ∧ (1 : Nat) < (4 : Nat)) ∧ (b = true → b = true ∧ b = true) ∧ (b = true → b = true) ∧ (b_3 = true → b_3 = true ∧ (0 : Int) ≤ (2 :
  Int) ∧ (2 : Int) < (↑(List.length (vecF (4 : Int) (Int.tmod (IntKind.wrap IntKind.i64 k) (9 : Int)) (Int.tmod (IntKind.wrap IntKind.i64 i) (↑(List.length (allF (Int.toNat (Int.tmod (IntKind.wrap IntKind.i64 k) (9 :
  Int))))) : Int)))) : Int)) ∧ (b_3 = true → b_3 = true ∧ (2 : Nat) < List.length (vecF (4 : Int) (Int.tmod (IntKind.wrap IntKind.i64 k) (9 : Int)) (Int.tmod (IntKind.wrap IntKind.i64 i) (↑(List.length (allF (Int.toNat
  (Int.tmod (IntKind.wrap IntKind.i64 k) (9 : Int))))) : Int)))) ∧ (b_3 = true → b_3 = true ∧ b_3 = true ∧ (0 : Int) ≤ Int.tmod (IntKind.wrap IntKind.i64 i) (↑(List.length (allF (Int.toNat (Int.tmod (IntKind.wrap
  IntKind.i64 k) (9 : Int))))) : Int) ∧ Int.tmod (IntKind.wrap IntKind.i64 i) (↑(List.length (allF (Int.toNat (Int.tmod (IntKind.wrap IntKind.i64 k) (9 : Int))))) : Int) < (↑(List.length (allF (Int.toNat (Int.tmod
  (IntKind.wrap IntKind.i64 k) (9 : Int))))) : Int)) ∧ (b_3 = true → b_3 = true ∧ (0 : Int) ≤ (2 : Int) ∧ (2 : Int) < (↑(4 : Nat) : Int)) ∧ (b_3 = true → b_3 = true ∧ (0 : Nat) + Int.toNat (Int.tmod (IntKind.wrap
  IntKind.i64 i) (↑(List.length (allF (Int.toNat (Int.tmod (IntKind.wrap IntKind.i64 k) (9 : Int))))) : Int)) < List.length (allF (Int.toNat (Int.tmod (IntKind.wrap IntKind.i64 k) (9 : Int)))) ∧ (2 : Nat) < (4 : Nat)) ∧
  (b_3 = true → b_3 = true ∧ b_3 = true) ∧ (b_3 = true → b_3 = true) ∧ (b_4 = true → b_4 = true ∧ (0 : Int) ≤ (3 : Int) ∧ (3 : Int) < (↑(List.length (vecF (4 : Int) (Int.tmod (IntKind.wrap IntKind.i64 k) (9 : Int))
  (Int.tmod (IntKind.wrap IntKind.i64 i) (↑(List.length (allF (Int.toNat (Int.tmod (IntKind.wrap IntKind.i64 k) (9 : Int))))) : Int)))) : Int)) ∧ (b_4 = true → b_4 = true ∧ (3 : Nat) < List.length (vecF (4 : Int) (Int.tmod
  (IntKind.wrap IntKind.i64 k) (9 : Int)) (Int.tmod (IntKind.wrap IntKind.i64 i) (↑(List.length (allF (Int.toNat (Int.tmod (IntKind.wrap IntKind.i64 k) (9 : Int))))) : Int)))) ∧ (b_4 = true → b_4 = true ∧ b_4 = true ∧ (0 :
  Int) ≤ Int.tmod (IntKind.wrap IntKind.i64 i) (↑(List.length (allF (Int.toNat (Int.tmod (IntKind.wrap IntKind.i64 k) (9 : Int))))) : Int) ∧ Int.tmod (IntKind.wrap IntKind.i64 i) (↑(List.length (allF (Int.toNat (Int.tmod
  (IntKind.wrap IntKind.i64 k) (9 : Int))))) : Int) < (↑(List.length (allF (Int.toNat (Int.tmod (IntKind.wrap IntKind.i64 k) (9 : Int))))) : Int)) ∧ (b_4 = true → b_4 = true ∧ (0 : Int) ≤ (3 : Int) ∧ (3 : Int) < (↑(4 : Nat)
  : Int)) ∧ (b_4 = true → b_4 = true ∧ (0 : Nat) + Int.toNat (Int.tmod (IntKind.wrap IntKind.i64 i) (↑(List.length (allF (Int.toNat (Int.tmod (IntKind.wrap IntKind.i64 k) (9 : Int))))) : Int)) < List.length (allF (Int.toNat
  (Int.tmod (IntKind.wrap IntKind.i64 k) (9 : Int)))) ∧ (3 : Nat) < (4 : Nat)) ∧ (b_4 = true → b_4 = true ∧ b_4 = true) ∧ (b_4 = true → b_4 = true)) ∧ (bif b_4 then decide (List.getD (vecF (4 : Int) (Int.tmod (IntKind.wrap
  IntKind.i64 k) (9 : Int)) (Int.tmod (IntKind.wrap IntKind.i64 i) (↑(List.length (allF (Int.toNat (Int.tmod (IntKind.wrap IntKind.i64 k) (9 : Int))))) : Int))) (3 : Nat) (0 : Int) = List.getD (List.getD (allF (Int.toNat
  (Int.tmod (IntKind.wrap IntKind.i64 k) (9 : Int)))) ((0 : Nat) + Int.toNat (Int.tmod (IntKind.wrap IntKind.i64 i) (↑(List.length (allF (Int.toNat (Int.tmod (IntKind.wrap IntKind.i64 k) (9 : Int))))) : Int)))
  (List.replicate (4 : Nat) (0 : Int))) (3 : Nat) (0 : Int)) else false) = true
theorem vc10 (k i : Int) : P10 k i = vcFun C10 (ann10 k i) Go.Proofs.Try.f10 [⟨.int .u8, k⟩, ⟨.int .u32, i⟩] [] (out10 k i) := by kernel_rfl

end Go.SL.A

/- PvqAll: the code as a plain condition holds. -/
namespace Go.SL.A
open Go Go.SL Go.SL.S

theorem hw10 {k i : Int} (hw : allP (List.flatMap (fun a : AV => a.t.wf a.x) [⟨.int .u8, k⟩, ⟨.int .u32, i⟩] ++ List.flatMap Blk.wf [])) : (0 ≤ k ∧ k ≤ 255) ∧ 0 ≤ i ∧ i ≤ 4294967295 := by
  simp only [List.flatMap_cons, List.flatMap_nil, Ty.wf, List.append_nil, List.cons_append, List.nil_append, allP] at hw
  exact ⟨⟨hw.1, hw.2.1⟩, hw.2.2.1, hw.2.2.2⟩

theorem pure10 (k i : Int) (hw : (0 ≤ k ∧ k ≤ 255) ∧ 0 ≤ i ∧ i ≤ 4294967295) : P10 k i := by
  unfold P10
  obtain ⟨⟨a1, a2⟩, c1, c2⟩ := hw
  rw [w64 (n := k) (by omega) (by omega), w64 (n := i) (by omega) (by omega)]
  have hk := tdm k (k := 9) (by omega)
  generalize hq : k.tmod 9 = q at *
  obtain ⟨K, rfl⟩ : ∃ K : Nat, q = K := ⟨q.toNat, by omega⟩
  have hK : K ≤ 8 := by omega
  have hc : countF 4 (K : Int) = cnt 4 K := by rw [countF_val (by omega)]; rfl
  have hl : ((allF K).length : Int) = cnt 4 K := by rw [all_eq hK]; exact allV_len (by omega)
  have hpos : 1 ≤ cnt 4 K := cnt_pos 3 K
  simp only [Int.toNat_natCast, Nat.zero_add, hl, hc, decide_true, Bool.not_true, cond_false]
  have hd := tdm i (k := cnt 4 K) (by omega)
  generalize hat : i.tmod (cnt 4 K) = at_ at *
  obtain ⟨v1, v2, v3, v4, v5, v6⟩ := vec_ok (n := 4) (k := (K : Int)) (i := at_) (by omega) (by omega) (by omega)
  have hg : (allF K).getD at_.toNat (List.replicate 4 0) = vecF 4 K at_ := by
    rw [all_eq hK, allV_get (by omega) (by omega) (by omega)]
    unfold vecF; rw [if_pos ⟨may_iff.2 (by omega), by omega, by omega⟩]; rfl
  have hlen : (vecF 4 K at_).length = 4 := by omega
  have hal : at_.toNat < (allF K).length := by omega
  simp only [hg, v1, v6, hlen, decide_true, Bool.not_true, cond_false]
  refine ⟨by omega, by omega, by omega, by simp [hal]; omega, ?_⟩
  rintro _ rfl _ rfl _ rfl
  refine ⟨by simp, ?_⟩
  simp only [cond_false, Bool.not_true, decide_true, Int.ofNat_eq_natCast]
  simp [hal, hlen]
  omega
end Go.SL.A

/- Functions do what they are held to do. -/
namespace Go.SL.A
open Go Go.SL Go.SL.S
theorem snd10 : Sound Go.Proofs.Try.prog G10 := snd47.add ⟨_, Go.Proofs.Try.func10, by kernel_rfl, by kernel_rfl⟩ (by
  intro args ins out h hp
  unfold sp10 at h
  split at h
  · rename_i k i
    cases h
    exact vcFun_ok (C := C10) good snd47 Meth.none mix Go.Proofs.Try.func10 (ann10 k i) (fun hw => by rw [← vc10 k i]; exact pure10 k i (hw10 hw))
  · cases h)

end Go.SL.A

/- PvqAll: the law returns true, whatever its arguments; each argument reads afterwards as before. No condition. -/
namespace Go.Proofs.Ythhfccnhkadkcaa
open Go Go.SL Go.SL.S Go.ChangeShapes Go.WideShapes Go.ChangeAt Go.WideMaps Go.WideElems Go.RowKit
set_option maxRecDepth 100000

theorem parsT : ((Go.Proofs.Try.f10.params.toList).all fun t => Nat.blt t Go.Proofs.Try.prog.types.size) = true := by kernel_rfl
theorem parsL : Go.Proofs.Try.f10.params.toList = [5, 42] := by kernel_rfl
theorem law_pure : ∀ avs bls, argsOk Go.SL.A.D Go.Proofs.Try.f10.params.toList 0 avs bls → VCall Go.Proofs.Try.prog 10 avs bls ⟨[], .v .bool true, [], []⟩ := by
  rw [parsL]
  intro avs bls h
  replace h : ∃ (t : Ty) (x : t.I) (avs' : List AV), Go.SL.A.D.ty 5 = some t ∧ avs = ⟨t, x⟩ :: avs' ∧ argsOk Go.SL.A.D [42] 0 avs' bls := h
  obtain ⟨t, x0, avs, ht, rfl, h⟩ := h
  obtain rfl : .int .u8 = t := Option.some.inj ((show (some (.int .u8) : Option Ty) = Go.SL.A.D.ty 5 by kernel_rfl).trans ht)
  replace h : ∃ (t : Ty) (x : t.I) (avs' : List AV), Go.SL.A.D.ty 42 = some t ∧ avs = ⟨t, x⟩ :: avs' ∧ argsOk Go.SL.A.D [] 0 avs' bls := h
  obtain ⟨t, x1, avs, ht, rfl, h⟩ := h
  obtain rfl : .int .u32 = t := Option.some.inj ((show (some (.int .u32) : Option Ty) = Go.SL.A.D.ty 42 by kernel_rfl).trans ht)
  obtain ⟨rfl, rfl⟩ : avs = [] ∧ bls = [] := h
  have q := (Go.SL.A.snd10 10 Go.SL.A.sp10 rfl).2 [⟨.int .u8, x0⟩, ⟨.int .u32, x1⟩] [] _ rfl (trivial)
  exact q

theorem lifted (os : Os) (started : os.Started) (H : Type) (enc : TypeId × Value → H) :
    ReturnsInHanded {} Go.Proofs.Try.checked os 10 .any (Rows.pvqAllSpec.pre6 enc Go.Proofs.Try.prog Go.Proofs.Try.f10 Rows.pvqAllRow.domain false) (Rows.pvqAllSpec.post enc Go.Proofs.Try.prog Go.Proofs.Try.f10 false true false false) := by
  refine returnsInHanded_of_change (C := Go.Proofs.Try.checked) Seat.own started (by kernel_rfl) Go.Proofs.Try.func10
    (ChangeSpec.witness6 (enc := enc) (C := Go.Proofs.Try.checked) false ⟨#[], #[.int .u8 0, .int .u32 0], []⟩ 8 (by kernel_rfl) (by kernel_rfl) (by kernel_rfl) (by kernel_rfl)) ?_
  intro W base args ds gs before hval hW _ _
  refine law_calls (D := Go.SL.A.D) Go.SL.A.good Seat.kids Seat.slicesFull (fun t ht => Nat.le_of_ble_eq_true (List.all_eq_true.1 parsT t ht)) (by kernel_rfl) (show Go.Proofs.Try.f10.resultTypes = #[4] by kernel_rfl) Go.Proofs.Try.underlying4 rfl (fun ds h => ?_) law_pure hval hW
  have h : ds.length = 2 := h
  match ds, h with
  | [_, _], _ => rfl

theorem joined : joinedFacts Go.Proofs.Try.prog 10 Go.Proofs.Try.f10 Rows.pvqAllSpec Rows.pvqAllRow = true := by
  unfold joinedFacts
  exact (andT (andT (andT (andT (andT (andT (andT (andT (andT (andT (andT (andT (andT (andT (andT (andT (andT (andT (andT (andT (andT (andT (andT (andT (andT (andT (andT (andT (andT (andT (andT (by as_aux_lemma => kernel_rfl) Seat.laidOut) Seat.mapsRowed) (by as_aux_lemma => kernel_rfl)) (by as_aux_lemma => kernel_rfl)) (by as_aux_lemma => kernel_rfl)) Seat.stops) (by as_aux_lemma => kernel_rfl)) Seat.knobs) (by as_aux_lemma => kernel_rfl)) (by as_aux_lemma => kernel_rfl)) (by as_aux_lemma => kernel_rfl)) (by as_aux_lemma => kernel_rfl)) (by as_aux_lemma => kernel_rfl)) (by as_aux_lemma => kernel_rfl)) (by as_aux_lemma => kernel_rfl)) (by as_aux_lemma => kernel_rfl)) (by as_aux_lemma => kernel_rfl)) (by as_aux_lemma => kernel_rfl)) (by as_aux_lemma => kernel_rfl)) (by as_aux_lemma => kernel_rfl)) (by as_aux_lemma => kernel_rfl)) (by as_aux_lemma => kernel_rfl)) (by as_aux_lemma => kernel_rfl)) Seat.heard) Seat.mayEnter) (by rw [Seat.lifts]; rfl)) (by rw [Seat.made]; rfl)) (by as_aux_lemma => kernel_rfl)) (by as_aux_lemma => kernel_rfl)) (by as_aux_lemma => kernel_rfl)) (by as_aux_lemma => kernel_rfl))

theorem pvqAll_holds : Rows.PvqAllSaid :=
  OpenClaim.holds_of_wide 10 Go.Proofs.Try.f10 rfl rfl rfl rfl rfl rfl rfl ⟨rfl, rfl, rfl, rfl, rfl⟩ rfl rfl rfl rfl rfl (by kernel_rfl) Go.Proofs.Try.func10 joined
    (of_decide_eq_true (by kernel_rfl)) (by unfold Func.isWrapper; first | (rw [if_pos (by decide +kernel)]; kernel_rfl) | (rw [if_neg (by decide +kernel)]; exact ⟨rfl, rfl⟩))
    (fun os started H enc _ => lifted os started H enc)

#print axioms pvqAll_holds
end Go.Proofs.Ythhfccnhkadkcaa
