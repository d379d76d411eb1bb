/- MarkLeast returns true, whatever its arguments, which read afterwards as before: no condition but that the package-level table holds what the program's text lays (tied by the card). -/
import Derived.Test.YthhfccnhkadkcaaDoorRows
import Derived.Test.YthhfccnhkadkcaaDoorCards
import Derived.Test.YthhfccnhkadkcaaDoorTie
import Derived.Test.YthhfccnhkadkcaaDoorShape
import Derived.Test.YthhfccnhkadkcaaDoorKb
import Derived.Test.YthhfccnhkadkcaaDoorT

/- Functions and what they are held to do: bound to their code. -/
namespace Go.SL.A
open Go Go.SL Go.SL.S
set_option maxRecDepth 100000
noncomputable def Cd7 : Ctx := ⟨Go.Proofs.Tryd.prog, D, Gd14, (fun _ _ => none), fun r => match r with | 4 => [2] | 6 => [4] | 7 => [1] | _ => []⟩
def annd7 (_k : List Int) (_f : Int) (_bit : Bool) (_side _l : List Int) (_n _i : Int) : Nat → St → Option Ann := fun _ _ => none
def outd7 (_k : List Int) (_f : Int) (_bit : Bool) (_side _l : List Int) (_n _i : Int) : COut := ⟨[], .v .bool true, [], []⟩
def spd7 : Spec := fun args ins => match args, ins with
  | [⟨.arr 16 (.int .u8), k⟩, ⟨.int .i64, f⟩, ⟨.bool, bit⟩, ⟨.arr 8 (.int .i64), side⟩, ⟨.arr 8 (.int .u32), l⟩, ⟨.int .u8, n⟩, ⟨.int .u32, i⟩], [] => some (outd7 k f bit side l n i)
  | _, _ => none
def Gd7 := addG Gd14 7 spd7
def Pd7 (k : List Int) (f : Int) (bit : Bool) (side l : List Int) (n i : Int) : Prop :=
  ((13 : Int) ≠ (0 : Int) ∧ (12 : Int) ≤ IntKind.wrap IntKind.i64 ((12 : Int) + Int.tmod (IntKind.wrap IntKind.i64 n) (13 : Int)) ∧ IntKind.wrap IntKind.i64 ((12 : Int) + Int.tmod (IntKind.wrap IntKind.i64 n) (13 : Int)) ≤
  (24 : Int)) ∧ ∀ (n_1 : Int), bandK k f = n_1 → ∀ (n_2 : Int), pulsesF (List.getD (Prod.snd (shape19 side l (IntKind.wrap IntKind.i64 ((12 : Int) + Int.tmod (IntKind.wrap IntKind.i64 n) (13 : Int))))) (Int.toNat n_1)
  (List.replicate (4 : Nat) (0 : Int))) = n_2 → (((0 : Int) ≤ n_1 ∧ n_1 < (↑(8 : Nat) : Int)) ∧ Int.toNat n_1 < (8 : Nat) ∧ (4 : Nat) ≤ (9223372036854775807 : Nat) ∧ Int.toNat n_1 < (8 : Nat) ∧ (4 : Nat) = List.length
  (List.getD (Prod.snd (shape19 side l (IntKind.wrap IntKind.i64 ((12 : Int) + Int.tmod (IntKind.wrap IntKind.i64 n) (13 : Int))))) (Int.toNat n_1) (List.replicate (4 : Nat) (0 : Int)))) ∧ ∀ (n_3 : Int), countF (4 : Int) n_2
  = n_3 → bif decide (n_3 = (0 : Int)) then false = true else n_3 ≠ (0 : Int) ∧ ∀ (b : Bool), (!decide (vecE (4 : Int) n_2 (Int.tmod (IntKind.wrap IntKind.i64 i) n_3) = (0 : Int))) = b → (((!b) = true → (!b) = true) ∧ ((!b)
  = true → (!b) = true) ∧ (b = false → (!b) = true)) ∧ bif bif b then true else !decide ((↑(List.length (vecF (4 : Int) n_2 (Int.tmod (IntKind.wrap IntKind.i64 i) n_3))) : Int) = (4 : Int)) then false = true else ((4 : Nat)
  ≤ List.length (vecF (4 : Int) n_2 (Int.tmod (IntKind.wrap IntKind.i64 i) n_3)) ∧ (4 : Nat) ≤ List.length (vecF (4 : Int) n_2 (Int.tmod (IntKind.wrap IntKind.i64 i) n_3)) ∧ ((0 : Int) ≤ n_1 ∧ n_1 < (↑(8 : Nat) : Int)) ∧
  Int.toNat n_1 < (8 : Nat)) ∧ bif bit then bif !decide (spkF (corrF k f (Prod.fst (shape19 side l (IntKind.wrap IntKind.i64 ((12 : Int) + Int.tmod (IntKind.wrap IntKind.i64 n) (13 : Int)))), List.set (Prod.snd (shape19 side
  l (IntKind.wrap IntKind.i64 ((12 : Int) + Int.tmod (IntKind.wrap IntKind.i64 n) (13 : Int))))) (Int.toNat n_1) (seg (vecF (4 : Int) n_2 (Int.tmod (IntKind.wrap IntKind.i64 i) n_3)) (0 : Nat) (4 : Nat)))) = (-1 : Int))
  then (true = false → false = true) ∧ true = true else (((0 : Int) ≤ n_1 ∧ n_1 < (↑(8 : Nat) : Int)) ∧ Int.toNat n_1 < (8 : Nat) ∧ ((0 : Int) ≤ n_1 ∧ n_1 < (↑(8 : Nat) : Int)) ∧ Int.toNat n_1 < (8 : Nat) ∧ smallV
  (List.getD (Prod.snd (shape19 side l (IntKind.wrap IntKind.i64 ((12 : Int) + Int.tmod (IntKind.wrap IntKind.i64 n) (13 : Int))))) (Int.toNat n_1) (List.replicate (4 : Nat) (0 : Int))) ∧ smallV (List.getD (List.set
  (Prod.snd (shape19 side l (IntKind.wrap IntKind.i64 ((12 : Int) + Int.tmod (IntKind.wrap IntKind.i64 n) (13 : Int))))) (Int.toNat n_1) (seg (vecF (4 : Int) n_2 (Int.tmod (IntKind.wrap IntKind.i64 i) n_3)) (0 : Nat) (4 :
  Nat))) (Int.toNat n_1) (List.replicate (4 : Nat) (0 : Int)))) ∧ bif !mayV (Prod.fst (shape19 side l (IntKind.wrap IntKind.i64 ((12 : Int) + Int.tmod (IntKind.wrap IntKind.i64 n) (13 : Int))))) n_1 (List.getD (Prod.snd
  (shape19 side l (IntKind.wrap IntKind.i64 ((12 : Int) + Int.tmod (IntKind.wrap IntKind.i64 n) (13 : Int))))) (Int.toNat n_1) (List.replicate (4 : Nat) (0 : Int))) (List.getD (List.set (Prod.snd (shape19 side l (IntKind.wrap
  IntKind.i64 ((12 : Int) + Int.tmod (IntKind.wrap IntKind.i64 n) (13 : Int))))) (Int.toNat n_1) (seg (vecF (4 : Int) n_2 (Int.tmod (IntKind.wrap IntKind.i64 i) n_3)) (0 : Nat) (4 : Nat))) (Int.toNat n_1) (List.replicate (4
  : Nat) (0 : Int))) then true = true else bif Prod.snd (putM k f bit (Prod.fst (shape19 side l (IntKind.wrap IntKind.i64 ((12 : Int) + Int.tmod (IntKind.wrap IntKind.i64 n) (13 : Int)))), Prod.snd (shape19 side l
  (IntKind.wrap IntKind.i64 ((12 : Int) + Int.tmod (IntKind.wrap IntKind.i64 n) (13 : Int)))))) then (((0 : Int) ≤ n_1 ∧ n_1 < (↑(8 : Nat) : Int)) ∧ Int.toNat n_1 < (8 : Nat) ∧ ((0 : Int) ≤ n_1 ∧ n_1 < (↑(8 : Nat) : Int)) ∧
  Int.toNat n_1 < (8 : Nat) ∧ (smallV (List.getD (Prod.snd (shape19 side l (IntKind.wrap IntKind.i64 ((12 : Int) + Int.tmod (IntKind.wrap IntKind.i64 n) (13 : Int))))) (Int.toNat n_1) (List.replicate (4 : Nat) (0 : Int))) ∧
  smallV (List.getD (Prod.snd (Prod.fst (putM k f bit (Prod.fst (shape19 side l (IntKind.wrap IntKind.i64 ((12 : Int) + Int.tmod (IntKind.wrap IntKind.i64 n) (13 : Int)))), Prod.snd (shape19 side l (IntKind.wrap IntKind.i64
  ((12 : Int) + Int.tmod (IntKind.wrap IntKind.i64 n) (13 : Int)))))))) (Int.toNat n_1) (List.replicate (4 : Nat) (0 : Int)))) ∧ ((0 : Int) ≤ n_1 ∧ n_1 < (↑(8 : Nat) : Int)) ∧ Int.toNat n_1 < (8 : Nat) ∧ ((0 : Int) ≤ n_1 ∧
  n_1 < (↑(8 : Nat) : Int)) ∧ Int.toNat n_1 < (8 : Nat) ∧ smallV (List.getD (Prod.snd (shape19 side l (IntKind.wrap IntKind.i64 ((12 : Int) + Int.tmod (IntKind.wrap IntKind.i64 n) (13 : Int))))) (Int.toNat n_1)
  (List.replicate (4 : Nat) (0 : Int))) ∧ smallV (List.getD (List.set (Prod.snd (shape19 side l (IntKind.wrap IntKind.i64 ((12 : Int) + Int.tmod (IntKind.wrap IntKind.i64 n) (13 : Int))))) (Int.toNat n_1) (seg (vecF (4 :
  Int) n_2 (Int.tmod (IntKind.wrap IntKind.i64 i) n_3)) (0 : Nat) (4 : Nat))) (Int.toNat n_1) (List.replicate (4 : Nat) (0 : Int)))) ∧ decide (farM (List.getD (Prod.snd (shape19 side l (IntKind.wrap IntKind.i64 ((12 : Int) +
  Int.tmod (IntKind.wrap IntKind.i64 n) (13 : Int))))) (Int.toNat n_1) (List.replicate (4 : Nat) (0 : Int))) (List.getD (Prod.snd (Prod.fst (putM k f bit (Prod.fst (shape19 side l (IntKind.wrap IntKind.i64 ((12 : Int) +
  Int.tmod (IntKind.wrap IntKind.i64 n) (13 : Int)))), Prod.snd (shape19 side l (IntKind.wrap IntKind.i64 ((12 : Int) + Int.tmod (IntKind.wrap IntKind.i64 n) (13 : Int)))))))) (Int.toNat n_1) (List.replicate (4 : Nat) (0 :
  Int))) (4 : Nat) ≤ farM (List.getD (Prod.snd (shape19 side l (IntKind.wrap IntKind.i64 ((12 : Int) + Int.tmod (IntKind.wrap IntKind.i64 n) (13 : Int))))) (Int.toNat n_1) (List.replicate (4 : Nat) (0 : Int))) (List.getD
  (List.set (Prod.snd (shape19 side l (IntKind.wrap IntKind.i64 ((12 : Int) + Int.tmod (IntKind.wrap IntKind.i64 n) (13 : Int))))) (Int.toNat n_1) (seg (vecF (4 : Int) n_2 (Int.tmod (IntKind.wrap IntKind.i64 i) n_3)) (0 :
  Nat) (4 : Nat))) (Int.toNat n_1) (List.replicate (4 : Nat) (0 : Int))) (4 : Nat)) = true else (false = true → false = true) ∧ false = true else bif !decide (spkF (corrF k f (Prod.fst (shape19 side l (IntKind.wrap
  IntKind.i64 ((12 : Int) + Int.tmod (IntKind.wrap IntKind.i64 n) (13 : Int)))), List.set (Prod.snd (shape19 side l (IntKind.wrap IntKind.i64 ((12 : Int) + Int.tmod (IntKind.wrap IntKind.i64 n) (13 : Int))))) (Int.toNat n_1)
  (seg (vecF (4 : Int) n_2 (Int.tmod (IntKind.wrap IntKind.i64 i) n_3)) (0 : Nat) (4 : Nat)))) = (1 : Int)) then (true = false → false = true) ∧ true = true else (((0 : Int) ≤ n_1 ∧ n_1 < (↑(8 : Nat) : Int)) ∧ Int.toNat n_1
  < (8 : Nat) ∧ ((0 : Int) ≤ n_1 ∧ n_1 < (↑(8 : Nat) : Int)) ∧ Int.toNat n_1 < (8 : Nat) ∧ smallV (List.getD (Prod.snd (shape19 side l (IntKind.wrap IntKind.i64 ((12 : Int) + Int.tmod (IntKind.wrap IntKind.i64 n) (13 :
  Int))))) (Int.toNat n_1) (List.replicate (4 : Nat) (0 : Int))) ∧ smallV (List.getD (List.set (Prod.snd (shape19 side l (IntKind.wrap IntKind.i64 ((12 : Int) + Int.tmod (IntKind.wrap IntKind.i64 n) (13 : Int))))) (Int.toNat
  n_1) (seg (vecF (4 : Int) n_2 (Int.tmod (IntKind.wrap IntKind.i64 i) n_3)) (0 : Nat) (4 : Nat))) (Int.toNat n_1) (List.replicate (4 : Nat) (0 : Int)))) ∧ bif !mayV (Prod.fst (shape19 side l (IntKind.wrap IntKind.i64 ((12 :
  Int) + Int.tmod (IntKind.wrap IntKind.i64 n) (13 : Int))))) n_1 (List.getD (Prod.snd (shape19 side l (IntKind.wrap IntKind.i64 ((12 : Int) + Int.tmod (IntKind.wrap IntKind.i64 n) (13 : Int))))) (Int.toNat n_1)
  (List.replicate (4 : Nat) (0 : Int))) (List.getD (List.set (Prod.snd (shape19 side l (IntKind.wrap IntKind.i64 ((12 : Int) + Int.tmod (IntKind.wrap IntKind.i64 n) (13 : Int))))) (Int.toNat n_1) (seg (vecF (4 : Int) n_2
  (Int.tmod (IntKind.wrap IntKind.i64 i) n_3)) (0 : Nat) (4 : Nat))) (Int.toNat n_1) (List.replicate (4 : Nat) (0 : Int))) then true = true else bif Prod.snd (putM k f bit (Prod.fst (shape19 side l (IntKind.wrap IntKind.i64
  ((12 : Int) + Int.tmod (IntKind.wrap IntKind.i64 n) (13 : Int)))), Prod.snd (shape19 side l (IntKind.wrap IntKind.i64 ((12 : Int) + Int.tmod (IntKind.wrap IntKind.i64 n) (13 : Int)))))) then (((0 : Int) ≤ n_1 ∧ n_1 < (↑(8
  : Nat) : Int)) ∧ Int.toNat n_1 < (8 : Nat) ∧ ((0 : Int) ≤ n_1 ∧ n_1 < (↑(8 : Nat) : Int)) ∧ Int.toNat n_1 < (8 : Nat) ∧ (smallV (List.getD (Prod.snd (shape19 side l (IntKind.wrap IntKind.i64 ((12 : Int) + Int.tmod
  (IntKind.wrap IntKind.i64 n) (13 : Int))))) (Int.toNat n_1) (List.replicate (4 : Nat) (0 : Int))) ∧ smallV (List.getD (Prod.snd (Prod.fst (putM k f bit (Prod.fst (shape19 side l (IntKind.wrap IntKind.i64 ((12 : Int) +
  Int.tmod (IntKind.wrap IntKind.i64 n) (13 : Int)))), Prod.snd (shape19 side l (IntKind.wrap IntKind.i64 ((12 : Int) + Int.tmod (IntKind.wrap IntKind.i64 n) (13 : Int)))))))) (Int.toNat n_1) (List.replicate (4 : Nat) (0 :
  Int)))) ∧ ((0 : Int) ≤ n_1 ∧ n_1 < (↑(8 : Nat) : Int)) ∧ Int.toNat n_1 < (8 : Nat) ∧ ((0 : Int) ≤ n_1 ∧ n_1 < (↑(8 : Nat) : Int)) ∧ Int.toNat n_1 < (8 : Nat) ∧ smallV (List.getD (Prod.snd (shape19 side l (IntKind.wrap
  IntKind.i64 ((12 : Int) + Int.tmod (IntKind.wrap IntKind.i64 n) (13 : Int))))) (Int.toNat n_1) (List.replicate (4 : Nat) (0 : Int))) ∧ smallV (List.getD (List.set (Prod.snd (shape19 side l (IntKind.wrap IntKind.i64 ((12 :
  Int) + Int.tmod (IntKind.wrap IntKind.i64 n) (13 : Int))))) (Int.toNat n_1) (seg (vecF (4 : Int) n_2 (Int.tmod (IntKind.wrap IntKind.i64 i) n_3)) (0 : Nat) (4 : Nat))) (Int.toNat n_1) (List.replicate (4 : Nat) (0 :
  Int)))) ∧ decide (farM (List.getD (Prod.snd (shape19 side l (IntKind.wrap IntKind.i64 ((12 : Int) + Int.tmod (IntKind.wrap IntKind.i64 n) (13 : Int))))) (Int.toNat n_1) (List.replicate (4 : Nat) (0 : Int))) (List.getD
  (Prod.snd (Prod.fst (putM k f bit (Prod.fst (shape19 side l (IntKind.wrap IntKind.i64 ((12 : Int) + Int.tmod (IntKind.wrap IntKind.i64 n) (13 : Int)))), Prod.snd (shape19 side l (IntKind.wrap IntKind.i64 ((12 : Int) +
  Int.tmod (IntKind.wrap IntKind.i64 n) (13 : Int)))))))) (Int.toNat n_1) (List.replicate (4 : Nat) (0 : Int))) (4 : Nat) ≤ farM (List.getD (Prod.snd (shape19 side l (IntKind.wrap IntKind.i64 ((12 : Int) + Int.tmod
  (IntKind.wrap IntKind.i64 n) (13 : Int))))) (Int.toNat n_1) (List.replicate (4 : Nat) (0 : Int))) (List.getD (List.set (Prod.snd (shape19 side l (IntKind.wrap IntKind.i64 ((12 : Int) + Int.tmod (IntKind.wrap IntKind.i64 n)
  (13 : Int))))) (Int.toNat n_1) (seg (vecF (4 : Int) n_2 (Int.tmod (IntKind.wrap IntKind.i64 i) n_3)) (0 : Nat) (4 : Nat))) (Int.toNat n_1) (List.replicate (4 : Nat) (0 : Int))) (4 : Nat)) = true else (false = true → false
  = true) ∧ false = true
theorem vcd7 (k : List Int) (f : Int) (bit : Bool) (side l : List Int) (n i : Int) : Pd7 k f bit side l n i = vcFun Cd7 (annd7 k f bit side l n i) Go.Proofs.Tryd.f7 [⟨.arr 16 (.int .u8), k⟩, ⟨.int .i64, f⟩, ⟨.bool, bit⟩, ⟨.arr 8 (.int .i64), side⟩, ⟨.arr 8 (.int .u32), l⟩, ⟨.int .u8, n⟩, ⟨.int .u32, i⟩] [] (outd7 k f bit side l n i) := by kernel_rfl

end Go.SL.A

/- MarkLeast: plain. -/
namespace Go.SL.A
open Go Go.SL Go.SL.S
set_option maxRecDepth 100000

theorem hwd7 {k side l : List Int} {f n i : Int} {bit : Bool} (hw : Go.SL.allP (List.flatMap (fun a : AV => a.t.wf a.x) [⟨.arr 16 (.int .u8), k⟩, ⟨.int .i64, f⟩, ⟨.bool, bit⟩, ⟨.arr 8 (.int .i64), side⟩, ⟨.arr 8 (.int .u32), l⟩, ⟨.int .u8, n⟩, ⟨.int .u32, i⟩] ++ List.flatMap Blk.wf [])) : side.length = 8 ∧ (∀ x ∈ l, 0 ≤ x ∧ x ≤ 4294967295) ∧ (0 ≤ n ∧ n ≤ 255) ∧ 0 ≤ i ∧ i ≤ 4294967295 := by
  simp only [List.flatMap_cons, List.flatMap_nil, Ty.wf, List.append_nil, List.cons_append, List.nil_append, Go.SL.allP] at hw
  obtain ⟨-, -, -, -, h5, -, -, h8, h9, h10, h11, h12⟩ := hw
  have e1 : IntKind.u32.min = 0 := by decide
  have e2 : IntKind.u32.max = 4294967295 := by decide
  have e3 : IntKind.u8.min = 0 := by decide
  have e4 : IntKind.u8.max = 255 := by decide
  rw [e3] at h9; rw [e4] at h10; rw [e1] at h11; rw [e2] at h12
  exact ⟨h5, fun x hx => by have := h8 x hx; rw [e1, e2] at this; exact this, ⟨h9, h10⟩, h11, h12⟩
theorem may_far {s : List Int} {b : Int} {y z : List Int} (h : mayV s b y z = true) : farM y z 4 ≤ movF s b := by
  unfold mayV at h
  rw [Bool.and_eq_true, decide_eq_true_eq] at h
  exact h.2
theorem pured7 (k : List Int) (f : Int) (bit : Bool) (side l : List Int) (n i : Int) (hw : side.length = 8 ∧ (∀ x ∈ l, 0 ≤ x ∧ x ≤ 4294967295) ∧ (0 ≤ n ∧ n ≤ 255) ∧ 0 ≤ i ∧ i ≤ 4294967295) : Pd7 k f bit side l n i := by
  obtain ⟨hs, hx, hn, hi⟩ := hw
  unfold Pd7
  obtain ⟨e1, e2⟩ := size_fit hn
  have wi : IntKind.i64.wrap i = i := w64 (by omega) (by omega)
  rw [e1, wi]
  have h := shape_rt (n := 12 + Int.tmod n 13) hs hx e2
  refine ⟨⟨by decide, e2.1, e2.2⟩, ?_⟩
  simp only [pair_eta]
  generalize shape19 side l (12 + Int.tmod n 13) = s at *
  have hb := band_fit k f
  have hb8 : (bandK k f).toNat < 8 := by omega
  have hbb : 0 ≤ bandK k f ∧ bandK k f < ((8 : Nat) : Int) := ⟨hb.1, hb.2⟩
  obtain ⟨y', W, R⟩ := h.put (k := k) (f := f) (bit := bit)
  have hq := h.sz _ hb
  have l8 := h.l8
  have hl : (rowZ s.2 (bandK k f)).length = 4 := h.l4 _ (getD_mem (by omega))
  have hfit := sumSz_fit (rowZ s.2 (bandK k f))
  have hpul := pulses_sz hl hq
  have hrow : List.getD s.2 (bandK k f).toNat (List.replicate 4 0) = rowZ s.2 (bandK k f) := rfl
  have hrow' : List.getD (putM k f bit s).1.2 (bandK k f).toNat (List.replicate 4 0) = y' := W.row
  have O := W.o
  have hsm : smallV (rowZ s.2 (bandK k f)) := small_of (okRow_of hq)
  have hsm' : smallV y' := small_of (okRow_of (by rw [O.sz]; exact hq))
  have hheld := h.held
  rintro _ rfl
  rw [hrow]
  generalize rowZ s.2 (bandK k f) = y at *
  rw [hpul]
  rintro _ rfl
  refine ⟨⟨hbb, hb8, by decide, hb8, hl.symm⟩, ?_⟩
  rintro _ rfl
  have hc := count_pos (q := sumSz y) ⟨hfit.1, hq⟩
  rw [decide_eq_false (show ¬ countF 4 (sumSz y) = 0 by omega), cond_false]
  have hd := rem_fit (x := i) hi.1 hc
  obtain ⟨v1, v2, v3, -⟩ := vec_ok (n := 4) (k := sumSz y) (by omega) hd.1 hd.2
  refine ⟨by omega, ?_⟩
  generalize vecF 4 (sumSz y) (Int.tmod i (countF 4 (sumSz y))) = v at *
  have v2 : v.length = 4 := by omega
  rw [v1]
  have hsv : smallV v := small_of (okRow_of (by omega))
  have hseg : seg v 0 4 = v := by unfold seg; rw [List.drop_zero, List.take_of_length_le (by omega)]
  have hset : List.getD (List.set s.2 (bandK k f).toNat v) (bandK k f).toNat (List.replicate 4 0) = v := row_set (by rw [l8]; exact hb8) v
  have hcorr : corrF k f (s.1, List.set s.2 (bandK k f).toNat v) = dotZ v (chipsK k f) 4 := by
    unfold corrF
    rw [if_pos (held_set hheld (okRow_of (by omega)) _)]
    show dotZ (List.getD (List.set s.2 (bandK k f).toNat v) (bandK k f).toNat (List.replicate 4 0)) _ 4 = _
    rw [hset]
  have hv4 : ((v.length : Nat) : Int) = 4 := by omega
  rw [hseg, hv4, hset, hcorr, hrow']
  rintro b hb0
  rw [decide_eq_true (rfl : (0 : Int) = 0), Bool.not_true] at hb0
  subst hb0
  refine ⟨by simp, ?_⟩
  rw [cond_false, decide_eq_true (rfl : (4 : Int) = 4), Bool.not_true, cond_false]
  refine ⟨⟨Nat.le_of_eq v2.symm, Nat.le_of_eq v2.symm, hbb, hb8⟩, ?_⟩
  have hw := spk_want (dotZ v (chipsK k f) 4) bit
  have hd2 := dot_chip v (chipsK k f) bit 4
  have hL := O.least v v2 v3
  cases bit with
  | true =>
    rw [cond_true]
    unfold wantF at hw
    rw [if_pos rfl] at hw hd2
    rw [if_pos rfl] at hw
    by_cases hsp : spkF (dotZ v (chipsK k f) 4) = -1
    · rw [decide_eq_true hsp, Bool.not_true, cond_false]
      refine ⟨⟨hbb, hb8, hbb, hb8, hsm, hsv⟩, ?_⟩
      cases hm : mayV s.1 (bandK k f) y v with
      | false => exact True.intro
      | true =>
        rw [Bool.not_true, cond_false]
        obtain ⟨ok, le⟩ := hL (by rw [hd2]; exact hw.1 hsp) (may_far hm)
        rw [ok, cond_true]
        exact ⟨⟨hbb, hb8, hbb, hb8, ⟨hsm, hsm'⟩, hbb, hb8, hbb, hb8, hsm, hsv⟩, decide_eq_true le⟩
    · rw [decide_eq_false hsp, Bool.not_false, cond_true]; exact ⟨by simp, by simp⟩
  | false =>
    rw [cond_false]
    unfold wantF at hw
    rw [if_neg (by simp)] at hw hd2
    rw [if_neg (by simp)] at hw
    by_cases hsp : spkF (dotZ v (chipsK k f) 4) = 1
    · rw [decide_eq_true hsp, Bool.not_true, cond_false]
      refine ⟨⟨hbb, hb8, hbb, hb8, hsm, hsv⟩, ?_⟩
      cases hm : mayV s.1 (bandK k f) y v with
      | false => exact True.intro
      | true =>
        rw [Bool.not_true, cond_false]
        obtain ⟨ok, le⟩ := hL (by rw [hd2]; exact hw.1 hsp) (may_far hm)
        rw [ok, cond_true]
        exact ⟨⟨hbb, hb8, hbb, hb8, ⟨hsm, hsm'⟩, hbb, hb8, hbb, hb8, hsm, hsv⟩, decide_eq_true le⟩
    · rw [decide_eq_false hsp, Bool.not_false, cond_true]; exact ⟨by simp, by simp⟩
end Go.SL.A

/- Functions do what they are held to do. -/
namespace Go.SL.A
open Go Go.SL Go.SL.S
theorem sndd7 : Sound Go.Proofs.Tryd.prog Gd7 := sndd14.add ⟨_, Go.Proofs.Tryd.func7, by kernel_rfl, by kernel_rfl⟩ (by
  intro args ins out h hp
  unfold spd7 at h
  split at h
  · rename_i k f bit side l n i
    cases h
    exact vcFun_ok (C := Cd7) good sndd14 Meth.none mix Go.Proofs.Tryd.func7 (annd7 k f bit side l n i) (fun hw => by rw [← vcd7 k f bit side l n i]; exact pured7 k f bit side l n i (hwd7 hw))
  · cases h)

end Go.SL.A

/- MarkLeast: the law returns true, whatever its arguments; each argument reads afterwards as before. No condition. -/
namespace Go.Proofs.YthhfccnhkadkcaaDoor
open Go Go.SL Go.SL.S Go.ChangeShapes Go.WideShapes Go.ChangeAt Go.WideMaps Go.WideElems Go.RowKit
set_option maxRecDepth 100000

theorem parsT : ((Go.Proofs.Tryd.f7.params.toList).all fun t => Nat.blt t Go.Proofs.Tryd.prog.types.size) = true := by kernel_rfl
theorem parsL : Go.Proofs.Tryd.f7.params.toList = [23, 3, 4, 24, 43, 5, 42] := by kernel_rfl
theorem law_pure : ∀ avs bls, argsOk Go.SL.A.D Go.Proofs.Tryd.f7.params.toList 0 avs bls → VCall Go.Proofs.Tryd.prog 7 avs bls ⟨[], .v .bool true, [], []⟩ := by
  rw [parsL]
  intro avs bls h
  replace h : ∃ (t : Ty) (x : t.I) (avs' : List AV), Go.SL.A.D.ty 23 = some t ∧ avs = ⟨t, x⟩ :: avs' ∧ argsOk Go.SL.A.D [3, 4, 24, 43, 5, 42] 0 avs' bls := h
  obtain ⟨t, x0, avs, ht, rfl, h⟩ := h
  obtain rfl : .arr 16 (.int .u8) = t := Option.some.inj ((show (some (.arr 16 (.int .u8)) : Option Ty) = Go.SL.A.D.ty 23 by kernel_rfl).trans ht)
  replace h : ∃ (t : Ty) (x : t.I) (avs' : List AV), Go.SL.A.D.ty 3 = some t ∧ avs = ⟨t, x⟩ :: avs' ∧ argsOk Go.SL.A.D [4, 24, 43, 5, 42] 0 avs' bls := h
  obtain ⟨t, x1, avs, ht, rfl, h⟩ := h
  obtain rfl : .int .i64 = t := Option.some.inj ((show (some (.int .i64) : Option Ty) = Go.SL.A.D.ty 3 by kernel_rfl).trans ht)
  replace h : ∃ (t : Ty) (x : t.I) (avs' : List AV), Go.SL.A.D.ty 4 = some t ∧ avs = ⟨t, x⟩ :: avs' ∧ argsOk Go.SL.A.D [24, 43, 5, 42] 0 avs' bls := h
  obtain ⟨t, x2, avs, ht, rfl, h⟩ := h
  obtain rfl : .bool = t := Option.some.inj ((show (some (.bool) : Option Ty) = Go.SL.A.D.ty 4 by kernel_rfl).trans ht)
  replace h : ∃ (t : Ty) (x : t.I) (avs' : List AV), Go.SL.A.D.ty 24 = some t ∧ avs = ⟨t, x⟩ :: avs' ∧ argsOk Go.SL.A.D [43, 5, 42] 0 avs' bls := h
  obtain ⟨t, x3, avs, ht, rfl, h⟩ := h
  obtain rfl : .arr 8 (.int .i64) = t := Option.some.inj ((show (some (.arr 8 (.int .i64)) : Option Ty) = Go.SL.A.D.ty 24 by kernel_rfl).trans ht)
  replace h : ∃ (t : Ty) (x : t.I) (avs' : List AV), Go.SL.A.D.ty 43 = some t ∧ avs = ⟨t, x⟩ :: avs' ∧ argsOk Go.SL.A.D [5, 42] 0 avs' bls := h
  obtain ⟨t, x4, avs, ht, rfl, h⟩ := h
  obtain rfl : .arr 8 (.int .u32) = t := Option.some.inj ((show (some (.arr 8 (.int .u32)) : Option Ty) = Go.SL.A.D.ty 43 by kernel_rfl).trans ht)
  replace h : ∃ (t : Ty) (x : t.I) (avs' : List AV), Go.SL.A.D.ty 5 = some t ∧ avs = ⟨t, x⟩ :: avs' ∧ argsOk Go.SL.A.D [42] 0 avs' bls := h
  obtain ⟨t, x5, avs, ht, rfl, h⟩ := h
  obtain rfl : .int .u8 = t := Option.some.inj ((show (some (.int .u8) : Option Ty) = Go.SL.A.D.ty 5 by kernel_rfl).trans ht)
  replace h : ∃ (t : Ty) (x : t.I) (avs' : List AV), Go.SL.A.D.ty 42 = some t ∧ avs = ⟨t, x⟩ :: avs' ∧ argsOk Go.SL.A.D [] 0 avs' bls := h
  obtain ⟨t, x6, avs, ht, rfl, h⟩ := h
  obtain rfl : .int .u32 = t := Option.some.inj ((show (some (.int .u32) : Option Ty) = Go.SL.A.D.ty 42 by kernel_rfl).trans ht)
  obtain ⟨rfl, rfl⟩ : avs = [] ∧ bls = [] := h
  have q := (Go.SL.A.sndd7 7 Go.SL.A.spd7 rfl).2 [⟨.arr 16 (.int .u8), x0⟩, ⟨.int .i64, x1⟩, ⟨.bool, x2⟩, ⟨.arr 8 (.int .i64), x3⟩, ⟨.arr 8 (.int .u32), x4⟩, ⟨.int .u8, x5⟩, ⟨.int .u32, x6⟩] [] _ rfl (trivial)
  exact q

abbrev laidL : List (String × DataW Unit) := [("belfry/sip.signs", Rows.laid_belfry_sip_signs)]
theorem lifted (os : Os) (started : os.Started) (H : Type) (enc : TypeId × Value → H) :
    ReturnsInHanded {} Go.Proofs.Tryd.checked os 7 .any (fun w args => (Rows.markLeastSpec.pre enc Go.Proofs.Tryd.prog Go.Proofs.Tryd.f7 [] false w args ∧ laidMetH Go.Proofs.Tryd.prog laidL w) ∧ sizedMet enc Go.Proofs.Tryd.prog Go.Proofs.Tryd.f7 (OpenSpec.ofChange Rows.markLeastSpec) false w args) (Rows.markLeastSpec.post enc Go.Proofs.Tryd.prog Go.Proofs.Tryd.f7 false true false false) := by
  refine returnsInHanded_of_change_and (C := Go.Proofs.Tryd.checked) (X := fun w _ => laidMetH Go.Proofs.Tryd.prog laidL w) (fun _ _ _ hh h => h.of_heap hh) Seat.own started (by kernel_rfl) Go.Proofs.Tryd.func7
    (ChangeSpec.witness_at (enc := enc) (C := Go.Proofs.Tryd.checked) (os := os) (X := fun w _ => laidMetH Go.Proofs.Tryd.prog laidL w) false (Seat.laidWorld os) #[.agg (Array.replicate 16 (.int .u8 0)), .int .i64 0, .bool false, .agg (Array.replicate 8 (.int .i64 0)), .agg (Array.replicate 8 (.int .u32 0)), .int .u8 0, .int .u32 0] 8 rfl (by kernel_rfl) (by kernel_rfl) (by kernel_rfl) (by kernel_rfl) (by kernel_rfl) (Seat.laidWorld_met os _)) ?_
  intro W base args ds gs before hval hW _ _ hL _
  refine law_calls (D := Go.SL.A.D) Go.SL.A.good Seat.kids Seat.slicesFull (fun t ht => Nat.le_of_ble_eq_true (List.all_eq_true.1 parsT t ht)) (by kernel_rfl) (show Go.Proofs.Tryd.f7.resultTypes = #[4] by kernel_rfl) Go.Proofs.Tryd.underlying4 rfl (fun ds h => ?_) law_pure (fun g a hg => Seat.signs_gl hL g a hg) hval hW
  have h : ds.length = 7 := h
  match ds, h with
  | [_, _, _, _, _, _, _], _ => rfl

theorem joined : joinedFacts Go.Proofs.Tryd.prog 7 Go.Proofs.Tryd.f7 Rows.markLeastSpec Rows.markLeastRow = true := by
  unfold joinedFacts
  exact (andT (andT (andT (andT (andT (andT (andT (andT (andT (andT (andT (andT (andT (andT (andT (andT (andT (andT (andT (andT (andT (andT (andT (andT (andT (andT (andT (andT (andT (andT (andT (by as_aux_lemma => kernel_rfl) Seat.laidOut) Seat.mapsRowed) (by as_aux_lemma => kernel_rfl)) (by as_aux_lemma => kernel_rfl)) (by as_aux_lemma => kernel_rfl)) Seat.stops) (by as_aux_lemma => kernel_rfl)) Seat.knobs) (by as_aux_lemma => kernel_rfl)) (by as_aux_lemma => kernel_rfl)) (by as_aux_lemma => kernel_rfl)) (by as_aux_lemma => kernel_rfl)) (by as_aux_lemma => kernel_rfl)) (by as_aux_lemma => kernel_rfl)) (by as_aux_lemma => kernel_rfl)) (by as_aux_lemma => kernel_rfl)) (by as_aux_lemma => kernel_rfl)) (by as_aux_lemma => kernel_rfl)) (by as_aux_lemma => kernel_rfl)) (by as_aux_lemma => kernel_rfl)) (by as_aux_lemma => kernel_rfl)) (by as_aux_lemma => kernel_rfl)) (by as_aux_lemma => kernel_rfl)) Seat.heard) Seat.mayEnter) (by rw [Seat.lifts]; rfl)) (by rw [Seat.made]; rfl)) (by as_aux_lemma => kernel_rfl)) (by as_aux_lemma => kernel_rfl)) (by as_aux_lemma => kernel_rfl)) (by as_aux_lemma => kernel_rfl))

theorem markLeast_holds : Rows.MarkLeastSaid :=
  OpenClaim.holds_of_wide 7 Go.Proofs.Tryd.f7 rfl rfl rfl rfl rfl rfl rfl ⟨rfl, rfl, rfl, rfl, rfl⟩ rfl rfl rfl rfl rfl (by kernel_rfl) Go.Proofs.Tryd.func7 joined
    (of_decide_eq_true (by kernel_rfl)) (by unfold Func.isWrapper; first | (rw [if_pos (by decide +kernel)]; kernel_rfl) | (rw [if_neg (by decide +kernel)]; exact ⟨rfl, rfl⟩))
    (fun os started H enc _ => lifted os started H enc)

theorem noStand : ((Go.Proofs.Tryd.f7.params.toList).all fun t => !Go.Proofs.Tryd.prog.wantsStandIn t) = true := by kernel_rfl
theorem markLeastCard_holds : Rows.MarkLeastCardSaid :=
  Claim7.holds_tied_plain_at .later [] [.data] true (true, "c88e0687c222961115da2a84d0fc17cee095a0dd0289832c0327b0b27169c1bb") true
    markLeast_holds (fun _ h => by cases h) (by kernel_rfl) (fun _ h => by cases h) markLeast_row_tie rfl ⟨rfl, rfl⟩ (by kernel_rfl) rfl
    (fun f fn hf hfn => by
      obtain rfl : f = 7 := Option.some.inj (hf.symm.trans (by kernel_rfl))
      obtain rfl : fn = Go.Proofs.Tryd.f7 := Option.some.inj (hfn.symm.trans Go.Proofs.Tryd.func7)
      refine ⟨by kernel_rfl, fun j t ht => ?_⟩
      have hm := List.all_eq_true.1 noStand t (List.mem_of_getElem? (by rw [Array.getElem?_toList]; exact ht))
      exact (show Go.Proofs.Tryd.prog.wantsStandIn t = false by simpa using hm))
    (by kernel_rfl)

#print axioms markLeastCard_holds
end Go.Proofs.YthhfccnhkadkcaaDoor
